/- What the machine's calls come to, function by function: printed by a program of this session after the kit's print; Lean checks it. SLIM -/
import Derived.Test.YtbheobngeocdfaaPAllx0
import Derived.Test.YtbheobngeocdfaaPAllxf91
import Derived.Test.YtbheobngeocdfaaPAllxf73
namespace Go.Proofs.Ytbheobngeocdfaa.PAll
open Go.RowKit Go.Proofs.YtbheobngeocdfaaW.PrintWords Go.Proofs.YtbheobngeocdfaaW.PrintLast Go.Proofs.YtbheobngeocdfaaW.PrintMore
attribute [local go_sem] max2_int min2_int max_two min_two max_three min_three max_four min_four   -- for this text's walks alone
set_option linter.unusedVariables false
set_option linter.unusedSimpArgs false

/-! ### assessorref03_text: function 57 -/
mutual
def assessorref03_text.j0 : Nat → Int → Bool → Int → ByteArray → Int → Int → List (S24) → Option (Bool)
 | 0, _, _, _, _, _, _, _ => none
 | k + 1, x4, x5, x225000, x225001, x225002, x225003, x225004 => if x5 = true then ((assessorref02_Name.f k x225001).bind fun t225 => (some t225)) else (if x4 = 9 then (if x225001.toList = ([105, 110, 116] : List UInt8) then (some true) else (if x225001.toList = ([98, 111, 111, 108] : List UInt8) then (some true) else ((assessorref02_Name.f k x225001).bind fun t226 => (some t226)))) else (if x4 = 10 then (assessorref03_text.j1 k x4 (x4 == 10) x225000 x225001 x225002 x225003 x225004) else (assessorref03_text.j1 k x4 (x4 == 24) x225000 x225001 x225002 x225003 x225004)))
def assessorref03_text.j1 : Nat → Int → Bool → Int → ByteArray → Int → Int → List (S24) → Option (Bool)
 | 0, _, _, _, _, _, _, _ => none
 | k + 1, x4, x35, x225000, x225001, x225002, x225003, x225004 => if x35 = true then ((assessorref03_number.f k x225001).bind fun t227 => (some t227)) else (if x4 = 25 then (if x225001.toList = ([116, 114, 117, 101] : List UInt8) then (some true) else (some (x225001.toList == ([102, 97, 108, 115, 101] : List UInt8)))) else (if x4 = 28 then (if x225001.toList = ([45] : List UInt8) then (some true) else (some (x225001.toList == ([110, 111, 116] : List UInt8)))) else (if x4 = 29 then ((assessorref02_Has.f k (([(⟨#[111, 114]⟩ : ByteArray), (⟨#[97, 110, 100]⟩ : ByteArray), (⟨#[61, 61]⟩ : ByteArray), (⟨#[33, 61]⟩ : ByteArray), (⟨#[60]⟩ : ByteArray), (⟨#[60, 61]⟩ : ByteArray), (⟨#[62]⟩ : ByteArray), (⟨#[62, 61]⟩ : ByteArray), (⟨#[43]⟩ : ByteArray), (⟨#[45]⟩ : ByteArray), (⟨#[42]⟩ : ByteArray), (⟨#[47]⟩ : ByteArray), (⟨#[37]⟩ : ByteArray)] : List ByteArray)) x225001).bind fun t231 => (some t231)) else (some (x225001.toList == ([] : List UInt8))))))
end
def assessorref03_text.f (k : Nat) (a0_0 : Int) (a0_1 : ByteArray) (a0_2 : Int) (a0_3 : Int) (l0_4 : List (S24)) : Option (Bool) := if a0_0 = 3 then (assessorref03_text.j0 k a0_0 (a0_0 == 3) a0_0 a0_1 a0_2 a0_3 l0_4) else (if a0_0 = 4 then (assessorref03_text.j0 k a0_0 (a0_0 == 4) a0_0 a0_1 a0_2 a0_3 l0_4) else (if a0_0 = 5 then (assessorref03_text.j0 k a0_0 (a0_0 == 5) a0_0 a0_1 a0_2 a0_3 l0_4) else (if a0_0 = 7 then (assessorref03_text.j0 k a0_0 (a0_0 == 7) a0_0 a0_1 a0_2 a0_3 l0_4) else (if a0_0 = 8 then (assessorref03_text.j0 k a0_0 (a0_0 == 8) a0_0 a0_1 a0_2 a0_3 l0_4) else (if a0_0 = 12 then (assessorref03_text.j0 k a0_0 (a0_0 == 12) a0_0 a0_1 a0_2 a0_3 l0_4) else (if a0_0 = 16 then (assessorref03_text.j0 k a0_0 (a0_0 == 16) a0_0 a0_1 a0_2 a0_3 l0_4) else (if a0_0 = 19 then (assessorref03_text.j0 k a0_0 (a0_0 == 19) a0_0 a0_1 a0_2 a0_3 l0_4) else (if a0_0 = 20 then (assessorref03_text.j0 k a0_0 (a0_0 == 20) a0_0 a0_1 a0_2 a0_3 l0_4) else (if a0_0 = 22 then (assessorref03_text.j0 k a0_0 (a0_0 == 22) a0_0 a0_1 a0_2 a0_3 l0_4) else (assessorref03_text.j0 k a0_0 (a0_0 == 27) a0_0 a0_1 a0_2 a0_3 l0_4))))))))))
theorem assessorref03_text.mono_l : ∀ k, (∀ y0 y1 y2 y3 y4 y5 y6, LeO (assessorref03_text.j0 k y0 y1 y2 y3 y4 y5 y6) (assessorref03_text.j0 (k + 1) y0 y1 y2 y3 y4 y5 y6)) ∧ (∀ y0 y1 y2 y3 y4 y5 y6, LeO (assessorref03_text.j1 k y0 y1 y2 y3 y4 y5 y6) (assessorref03_text.j1 (k + 1) y0 y1 y2 y3 y4 y5 y6))
 | 0 => ⟨fun _ _ _ _ _ _ _ r h => by simp [assessorref03_text.j0] at h, fun _ _ _ _ _ _ _ r h => by simp [assessorref03_text.j1] at h⟩
 | k + 1 => by
  obtain ⟨ih0, ih1⟩ := assessorref03_text.mono_l k
  refine ⟨?_, ?_⟩
  ·intro y0 y1 y2 y3 y4 y5 y6
   unfold assessorref03_text.j0
   repeat' first
   | (with_reducible exact ih0 _ _ _ _ _ _ _)
   | (with_reducible exact ih1 _ _ _ _ _ _ _)
   | (with_reducible exact assessorref02_Has.mono _ _ _)
   | (with_reducible exact assessorref02_Name.mono _ _)
   | (with_reducible exact assessorref03_number.mono _ _)
   | (with_reducible exact LeO.refl _)
   | (with_reducible exact LeO.none _)
   | (with_reducible refine LeO.ite ?_ ?_)
   | (with_reducible refine LeO.bind ?_ (fun _ => ?_))
   | exact ih0 _ _ _ _ _ _ _
   | exact ih1 _ _ _ _ _ _ _
   | exact assessorref02_Has.mono _ _ _
   | exact assessorref02_Name.mono _ _
   | exact assessorref03_number.mono _ _
   | exact LeO.none _
   | refine LeO.ite ?_ ?_
   | refine LeO.bind ?_ (fun _ => ?_)
  ·intro y0 y1 y2 y3 y4 y5 y6
   unfold assessorref03_text.j1
   repeat' first
   | (with_reducible exact ih0 _ _ _ _ _ _ _)
   | (with_reducible exact ih1 _ _ _ _ _ _ _)
   | (with_reducible exact assessorref02_Has.mono _ _ _)
   | (with_reducible exact assessorref02_Name.mono _ _)
   | (with_reducible exact assessorref03_number.mono _ _)
   | (with_reducible exact LeO.refl _)
   | (with_reducible exact LeO.none _)
   | (with_reducible refine LeO.ite ?_ ?_)
   | (with_reducible refine LeO.bind ?_ (fun _ => ?_))
   | exact ih0 _ _ _ _ _ _ _
   | exact ih1 _ _ _ _ _ _ _
   | exact assessorref02_Has.mono _ _ _
   | exact assessorref02_Name.mono _ _
   | exact assessorref03_number.mono _ _
   | exact LeO.none _
   | refine LeO.ite ?_ ?_
   | refine LeO.bind ?_ (fun _ => ?_)
theorem assessorref03_text.mono : ∀ a0 a1 a2 a3 a4 k, LeO (assessorref03_text.f k a0 a1 a2 a3 a4) (assessorref03_text.f (k + 1) a0 a1 a2 a3 a4) := by
 intro a0 a1 a2 a3 a4 k
 obtain ⟨ih0, ih1⟩ := assessorref03_text.mono_l k
 unfold assessorref03_text.f
 repeat' first
   | (with_reducible exact ih0 _ _ _ _ _ _ _)
   | (with_reducible exact ih1 _ _ _ _ _ _ _)
   | (with_reducible exact assessorref02_Has.mono _ _ _)
   | (with_reducible exact assessorref02_Name.mono _ _)
   | (with_reducible exact assessorref03_number.mono _ _)
   | (with_reducible exact LeO.refl _)
   | (with_reducible exact LeO.none _)
   | (with_reducible refine LeO.ite ?_ ?_)
   | (with_reducible refine LeO.bind ?_ (fun _ => ?_))
   | exact ih0 _ _ _ _ _ _ _
   | exact ih1 _ _ _ _ _ _ _
   | exact assessorref02_Has.mono _ _ _
   | exact assessorref02_Name.mono _ _
   | exact assessorref03_number.mono _ _
   | exact LeO.none _
   | refine LeO.ite ?_ ?_
   | refine LeO.bind ?_ (fun _ => ?_)
set_option maxHeartbeats 8000000 in
set_option maxRecDepth 100000 in
theorem assessorref03_text.calls (k : Nat) (a0_0 : Int) (a0_1 : ByteArray) (a0_2 : Int) (a0_3 : Int) (A0_4 : Option Addr) (c0_4 : Nat) (l0_4 : List (S24)) (r : Bool) (w : World) (hr0_4 : Kd.C k24 w A0_4 l0_4.length l0_4) (hc0_4 : l0_4.length ≤ c0_4) (h : assessorref03_text.f k a0_0 a0_1 a0_2 a0_3 l0_4 = some r) :
  Calls Try.prog 57 #[.agg #[.int .i64 a0_0, .string a0_1, .int .i64 a0_2, .int .i64 a0_3, .slice A0_4 l0_4.length c0_4]] w fun e w' => e = .returned (.bool r) ∧ Below w.heap.size w w' := by
 have hu24 := Try.underlying24
 have HR0_4 := Aside0.mk hr0_4
 have HC0_4 := Aside0.mk hc0_4
 clear hr0_4 hc0_4
 have HB := Aside0.mk (Below.refl w.heap.size w)
 have H : (if a0_0 = 3 then (assessorref03_text.j0 k a0_0 (a0_0 == 3) a0_0 a0_1 a0_2 a0_3 l0_4) else (if a0_0 = 4 then (assessorref03_text.j0 k a0_0 (a0_0 == 4) a0_0 a0_1 a0_2 a0_3 l0_4) else (if a0_0 = 5 then (assessorref03_text.j0 k a0_0 (a0_0 == 5) a0_0 a0_1 a0_2 a0_3 l0_4) else (if a0_0 = 7 then (assessorref03_text.j0 k a0_0 (a0_0 == 7) a0_0 a0_1 a0_2 a0_3 l0_4) else (if a0_0 = 8 then (assessorref03_text.j0 k a0_0 (a0_0 == 8) a0_0 a0_1 a0_2 a0_3 l0_4) else (if a0_0 = 12 then (assessorref03_text.j0 k a0_0 (a0_0 == 12) a0_0 a0_1 a0_2 a0_3 l0_4) else (if a0_0 = 16 then (assessorref03_text.j0 k a0_0 (a0_0 == 16) a0_0 a0_1 a0_2 a0_3 l0_4) else (if a0_0 = 19 then (assessorref03_text.j0 k a0_0 (a0_0 == 19) a0_0 a0_1 a0_2 a0_3 l0_4) else (if a0_0 = 20 then (assessorref03_text.j0 k a0_0 (a0_0 == 20) a0_0 a0_1 a0_2 a0_3 l0_4) else (if a0_0 = 22 then (assessorref03_text.j0 k a0_0 (a0_0 == 22) a0_0 a0_1 a0_2 a0_3 l0_4) else (assessorref03_text.j0 k a0_0 (a0_0 == 27) a0_0 a0_1 a0_2 a0_3 l0_4))))))))))) = some r := h
 clear h
 have HC2 := Aside0.mk H
 clear H
 go_enter Try.func57, Try.ntmps57
 go_upto_if 5 with (first | ((with_reducible refine gate_dst (N := 1) rfl ?_); refine box_event ?hg (N := 1) ?hd (cs := #[.int .i64 a0_0, .string a0_1, .int .i64 a0_2, .int .i64 a0_3, .slice A0_4 l0_4.length c0_4]) (t := 24) ?hr ?_; (case hd => rfl); (case hg => rfl); (case hr => first | (go_simp; done) | (go_simp; rfl)); intro gb224 hg w3 hbox hb; have n0_ := Aside0.mk (below_step (by repeat (first | (with_reducible first | exact HB.out | apply below_alloc | apply pw_below_drewN | apply below_drew1) | exact HB.out)) hb); have n1_ := Aside0.mk (hbox); have n2_ := Aside0.mk ((by rw [hg]; exact (below_size (by repeat (first | (with_reducible first | exact HB.out | apply below_alloc | apply pw_below_drewN | apply below_drew1) | exact HB.out))) : w.heap.size ≤ gb224)); have n3_ := Aside0.mk ((by rw [hg]; exact (below_size (by repeat (first | (with_reducible first | exact HB.out | apply below_alloc | apply pw_below_drewN | apply below_drew1) | exact HB.out))) : w.heap.size ≤ gb224)); clear HB; have HB := n0_; have BK224 := n1_; have GW224 := n2_; have GE224 := n3_; clear n0_ n1_ n2_ n3_; clear hb hbox hg; have hcz4_0 : w3.cell? ⟨gb224, 0, none⟩ = some (.int .i64 a0_0) := (blk_cell BK224.out 0).trans rfl; have hcz4_1 : w3.cell? ⟨gb224, 1, none⟩ = some (.string a0_1) := (blk_cell BK224.out 1).trans rfl; have hcz4_2 : w3.cell? ⟨gb224, 2, none⟩ = some (.int .i64 a0_2) := (blk_cell BK224.out 2).trans rfl; have hcz4_3 : w3.cell? ⟨gb224, 3, none⟩ = some (.int .i64 a0_3) := (blk_cell BK224.out 3).trans rfl; have hcz4_4 : w3.cell? ⟨gb224, 4, none⟩ = some (.slice A0_4 l0_4.length c0_4) := (blk_cell BK224.out 4).trans rfl; have hfz4_0 := blk_frozen BK224.out 0; have hfz4_1 := blk_frozen BK224.out 1; have hfz4_2 := blk_frozen BK224.out 2; have hfz4_3 := blk_frozen BK224.out 3; have hfz4_4 := blk_frozen BK224.out 4))
 (try simp only [Act.put, List.setIfInBounds_toArray, List.set_cons_zero, List.set_cons_succ])
 go_cut [5] (fun v5 wc => ∃ (kq : Nat) (x5_1 : Bool), v5 = .bool x5_1 ∧ Aside0 (assessorref03_text.j0 kq a0_0 x5_1 a0_0 a0_1 a0_2 a0_3 l0_4 = some r) ∧ Aside0 (kq ≤ k) ∧ Aside0 (wc.heap[gb224]? = some (.cells #[.int .i64 a0_0, .string a0_1, .int .i64 a0_2, .int .i64 a0_3, (.slice A0_4 l0_4.length c0_4)] 24 (0, 0))) ∧ Aside0 (Below w.heap.size w wc))
 case first =>
  have H := HC2.out
  clear HC2
  by_cases c5 : a0_0 = 3
  ·rw [if_pos c5] at H
   have c5b0 : (a0_0 == 3) = true := beq_iff_eq.mpr c5
   have c5b1 : (a0_0 != 3) = false := bne_eq_false_iff_eq.mpr c5
   clear c5
   (first | rw [c5b0] | (simp only [i64_w, i32_w]; rw [c5b0]) | skip)
   have H' := Aside0.mk H
   clear H
   go_wp2
   go_meet
   case rel => exact ⟨_, ((a0_0 == 3)), (by first | rfl | (simp; done) | (simp [*]; done)), H', ⟨by first | omega | exact Nat.le_refl _⟩, ⟨by (with_reducible repeat (first | refine blk_drewN ?_ _ | refine blk_drew ?_ | refine blk_alloc ?_ _)); exact BK224.out⟩, ⟨by repeat (first | (with_reducible first | exact HB.out | apply below_alloc | apply pw_below_drewN | apply below_drew1 | refine below_set ?_ GE224.out) | exact HB.out)⟩⟩
  ·rw [if_neg c5] at H
   have c5b0 : (a0_0 == 3) = false := beq_eq_false_iff_ne.mpr c5
   have c5b1 : (a0_0 != 3) = true := bne_iff_ne.mpr c5
   (first | rw [c5b0] | (simp only [i64_w, i32_w]; rw [c5b0]) | skip)
   by_cases c6 : a0_0 = 4
   ·rw [if_pos c6] at H
    have c6b0 : (a0_0 == 4) = true := beq_iff_eq.mpr c6
    have c6b1 : (a0_0 != 4) = false := bne_eq_false_iff_eq.mpr c6
    clear c6
    have H' := Aside0.mk H
    clear H
    go_wp2
    go_meet
    case rel => exact ⟨_, ((a0_0 == 4)), (by first | rfl | (simp; done) | (simp [*]; done)), H', ⟨by first | omega | exact Nat.le_refl _⟩, ⟨by (with_reducible repeat (first | refine blk_drewN ?_ _ | refine blk_drew ?_ | refine blk_alloc ?_ _)); exact BK224.out⟩, ⟨by repeat (first | (with_reducible first | exact HB.out | apply below_alloc | apply pw_below_drewN | apply below_drew1 | refine below_set ?_ GE224.out) | exact HB.out)⟩⟩
   ·rw [if_neg c6] at H
    have c6b0 : (a0_0 == 4) = false := beq_eq_false_iff_ne.mpr c6
    have c6b1 : (a0_0 != 4) = true := bne_iff_ne.mpr c6
    by_cases c7 : a0_0 = 5
    ·rw [if_pos c7] at H
     have c7b0 : (a0_0 == 5) = true := beq_iff_eq.mpr c7
     have c7b1 : (a0_0 != 5) = false := bne_eq_false_iff_eq.mpr c7
     clear c7
     have H' := Aside0.mk H
     clear H
     go_wp2
     go_meet
     case rel => exact ⟨_, ((a0_0 == 5)), (by first | rfl | (simp; done) | (simp [*]; done)), H', ⟨by first | omega | exact Nat.le_refl _⟩, ⟨by (with_reducible repeat (first | refine blk_drewN ?_ _ | refine blk_drew ?_ | refine blk_alloc ?_ _)); exact BK224.out⟩, ⟨by repeat (first | (with_reducible first | exact HB.out | apply below_alloc | apply pw_below_drewN | apply below_drew1 | refine below_set ?_ GE224.out) | exact HB.out)⟩⟩
    ·rw [if_neg c7] at H
     have c7b0 : (a0_0 == 5) = false := beq_eq_false_iff_ne.mpr c7
     have c7b1 : (a0_0 != 5) = true := bne_iff_ne.mpr c7
     by_cases c8 : a0_0 = 7
     ·rw [if_pos c8] at H
      have c8b0 : (a0_0 == 7) = true := beq_iff_eq.mpr c8
      have c8b1 : (a0_0 != 7) = false := bne_eq_false_iff_eq.mpr c8
      clear c8
      have H' := Aside0.mk H
      clear H
      go_wp2
      go_meet
      case rel => exact ⟨_, ((a0_0 == 7)), (by first | rfl | (simp; done) | (simp [*]; done)), H', ⟨by first | omega | exact Nat.le_refl _⟩, ⟨by (with_reducible repeat (first | refine blk_drewN ?_ _ | refine blk_drew ?_ | refine blk_alloc ?_ _)); exact BK224.out⟩, ⟨by repeat (first | (with_reducible first | exact HB.out | apply below_alloc | apply pw_below_drewN | apply below_drew1 | refine below_set ?_ GE224.out) | exact HB.out)⟩⟩
     ·rw [if_neg c8] at H
      have c8b0 : (a0_0 == 7) = false := beq_eq_false_iff_ne.mpr c8
      have c8b1 : (a0_0 != 7) = true := bne_iff_ne.mpr c8
      by_cases c9 : a0_0 = 8
      ·rw [if_pos c9] at H
       have c9b0 : (a0_0 == 8) = true := beq_iff_eq.mpr c9
       have c9b1 : (a0_0 != 8) = false := bne_eq_false_iff_eq.mpr c9
       clear c9
       have H' := Aside0.mk H
       clear H
       go_wp2
       go_meet
       case rel => exact ⟨_, ((a0_0 == 8)), (by first | rfl | (simp; done) | (simp [*]; done)), H', ⟨by first | omega | exact Nat.le_refl _⟩, ⟨by (with_reducible repeat (first | refine blk_drewN ?_ _ | refine blk_drew ?_ | refine blk_alloc ?_ _)); exact BK224.out⟩, ⟨by repeat (first | (with_reducible first | exact HB.out | apply below_alloc | apply pw_below_drewN | apply below_drew1 | refine below_set ?_ GE224.out) | exact HB.out)⟩⟩
      ·rw [if_neg c9] at H
       have c9b0 : (a0_0 == 8) = false := beq_eq_false_iff_ne.mpr c9
       have c9b1 : (a0_0 != 8) = true := bne_iff_ne.mpr c9
       by_cases c10 : a0_0 = 12
       ·rw [if_pos c10] at H
        have c10b0 : (a0_0 == 12) = true := beq_iff_eq.mpr c10
        have c10b1 : (a0_0 != 12) = false := bne_eq_false_iff_eq.mpr c10
        clear c10
        have H' := Aside0.mk H
        clear H
        go_wp2
        go_meet
        case rel => exact ⟨_, ((a0_0 == 12)), (by first | rfl | (simp; done) | (simp [*]; done)), H', ⟨by first | omega | exact Nat.le_refl _⟩, ⟨by (with_reducible repeat (first | refine blk_drewN ?_ _ | refine blk_drew ?_ | refine blk_alloc ?_ _)); exact BK224.out⟩, ⟨by repeat (first | (with_reducible first | exact HB.out | apply below_alloc | apply pw_below_drewN | apply below_drew1 | refine below_set ?_ GE224.out) | exact HB.out)⟩⟩
       ·rw [if_neg c10] at H
        have c10b0 : (a0_0 == 12) = false := beq_eq_false_iff_ne.mpr c10
        have c10b1 : (a0_0 != 12) = true := bne_iff_ne.mpr c10
        by_cases c11 : a0_0 = 16
        ·rw [if_pos c11] at H
         have c11b0 : (a0_0 == 16) = true := beq_iff_eq.mpr c11
         have c11b1 : (a0_0 != 16) = false := bne_eq_false_iff_eq.mpr c11
         clear c11
         have H' := Aside0.mk H
         clear H
         go_wp2
         go_meet
         case rel => exact ⟨_, ((a0_0 == 16)), (by first | rfl | (simp; done) | (simp [*]; done)), H', ⟨by first | omega | exact Nat.le_refl _⟩, ⟨by (with_reducible repeat (first | refine blk_drewN ?_ _ | refine blk_drew ?_ | refine blk_alloc ?_ _)); exact BK224.out⟩, ⟨by repeat (first | (with_reducible first | exact HB.out | apply below_alloc | apply pw_below_drewN | apply below_drew1 | refine below_set ?_ GE224.out) | exact HB.out)⟩⟩
        ·rw [if_neg c11] at H
         have c11b0 : (a0_0 == 16) = false := beq_eq_false_iff_ne.mpr c11
         have c11b1 : (a0_0 != 16) = true := bne_iff_ne.mpr c11
         by_cases c12 : a0_0 = 19
         ·rw [if_pos c12] at H
          have c12b0 : (a0_0 == 19) = true := beq_iff_eq.mpr c12
          have c12b1 : (a0_0 != 19) = false := bne_eq_false_iff_eq.mpr c12
          clear c12
          have H' := Aside0.mk H
          clear H
          go_wp2
          go_meet
          case rel => exact ⟨_, ((a0_0 == 19)), (by first | rfl | (simp; done) | (simp [*]; done)), H', ⟨by first | omega | exact Nat.le_refl _⟩, ⟨by (with_reducible repeat (first | refine blk_drewN ?_ _ | refine blk_drew ?_ | refine blk_alloc ?_ _)); exact BK224.out⟩, ⟨by repeat (first | (with_reducible first | exact HB.out | apply below_alloc | apply pw_below_drewN | apply below_drew1 | refine below_set ?_ GE224.out) | exact HB.out)⟩⟩
         ·rw [if_neg c12] at H
          have c12b0 : (a0_0 == 19) = false := beq_eq_false_iff_ne.mpr c12
          have c12b1 : (a0_0 != 19) = true := bne_iff_ne.mpr c12
          by_cases c13 : a0_0 = 20
          ·rw [if_pos c13] at H
           have c13b0 : (a0_0 == 20) = true := beq_iff_eq.mpr c13
           have c13b1 : (a0_0 != 20) = false := bne_eq_false_iff_eq.mpr c13
           clear c13
           have H' := Aside0.mk H
           clear H
           go_wp2
           go_meet
           case rel => exact ⟨_, ((a0_0 == 20)), (by first | rfl | (simp; done) | (simp [*]; done)), H', ⟨by first | omega | exact Nat.le_refl _⟩, ⟨by (with_reducible repeat (first | refine blk_drewN ?_ _ | refine blk_drew ?_ | refine blk_alloc ?_ _)); exact BK224.out⟩, ⟨by repeat (first | (with_reducible first | exact HB.out | apply below_alloc | apply pw_below_drewN | apply below_drew1 | refine below_set ?_ GE224.out) | exact HB.out)⟩⟩
          ·rw [if_neg c13] at H
           have c13b0 : (a0_0 == 20) = false := beq_eq_false_iff_ne.mpr c13
           have c13b1 : (a0_0 != 20) = true := bne_iff_ne.mpr c13
           by_cases c14 : a0_0 = 22
           ·rw [if_pos c14] at H
            have c14b0 : (a0_0 == 22) = true := beq_iff_eq.mpr c14
            have c14b1 : (a0_0 != 22) = false := bne_eq_false_iff_eq.mpr c14
            clear c14
            have H' := Aside0.mk H
            clear H
            go_wp2
            go_meet
            case rel => exact ⟨_, ((a0_0 == 22)), (by first | rfl | (simp; done) | (simp [*]; done)), H', ⟨by first | omega | exact Nat.le_refl _⟩, ⟨by (with_reducible repeat (first | refine blk_drewN ?_ _ | refine blk_drew ?_ | refine blk_alloc ?_ _)); exact BK224.out⟩, ⟨by repeat (first | (with_reducible first | exact HB.out | apply below_alloc | apply pw_below_drewN | apply below_drew1 | refine below_set ?_ GE224.out) | exact HB.out)⟩⟩
           ·rw [if_neg c14] at H
            have c14b0 : (a0_0 == 22) = false := beq_eq_false_iff_ne.mpr c14
            have c14b1 : (a0_0 != 22) = true := bne_iff_ne.mpr c14
            have H' := Aside0.mk H
            clear H
            go_wp2
            go_meet
            case rel => exact ⟨_, ((a0_0 == 27)), (by first | rfl | (simp; done) | (simp [*]; done)), H', ⟨by first | omega | exact Nat.le_refl _⟩, ⟨by (with_reducible repeat (first | refine blk_drewN ?_ _ | refine blk_drew ?_ | refine blk_alloc ?_ _)); exact BK224.out⟩, ⟨by repeat (first | (with_reducible first | exact HB.out | apply below_alloc | apply pw_below_drewN | apply below_drew1 | refine below_set ?_ GE224.out) | exact HB.out)⟩⟩
 case rest =>
  clear HC2
  try clear c1
  try clear p2
  try clear c5
  try clear c5b0
  try clear c5b1
  try clear c6
  try clear c6b0
  try clear c6b1
  try clear c7
  try clear c7b0
  try clear c7b1
  try clear c8
  try clear c8b0
  try clear c8b1
  try clear c9
  try clear c9b0
  try clear c9b1
  try clear c10
  try clear c10b0
  try clear c10b1
  try clear c11
  try clear c11b0
  try clear c11b1
  try clear c12
  try clear c12b0
  try clear c12b1
  try clear c13
  try clear c13b0
  try clear c13b1
  try clear c14
  try clear c14b0
  try clear c14b1
  try clear hcz4_0
  try clear hcz4_1
  try clear hcz4_2
  try clear hcz4_3
  try clear hcz4_4
  try clear hfz4_0
  try clear hfz4_1
  try clear hfz4_2
  try clear hfz4_3
  try clear hfz4_4
  obtain ⟨kq, x5_1, rfl, HA, HJ1, BK224, HB⟩ := hcut
  cases kq with
  | zero => exact absurd HA.out (by simp [assessorref03_text.j0])
  | succ kj1 =>
   have H := HA.out
   clear HA
   simp only [assessorref03_text.j0] at H
   by_cases c15 : x5_1 = true
   ·subst c15
    have H1 : ((assessorref02_Name.f kj1 a0_1).bind fun t225 => (some t225)) = some r := by rw [if_pos rfl] at H; exact H
    clear H
    have H := H1
    clear H1
    replace H := Option.bind_eq_some_iff.mp H
    obtain ⟨t225, A160, H⟩ := H
    replace H : (some t225) = some r := H
    have A16 := Aside0.mk A160
    clear A160
    obtain rfl := Option.some.inj H
    have hcz17_0 : wc.cell? ⟨gb224, 0, none⟩ = some (.int .i64 a0_0) := (blk_cell BK224.out 0).trans rfl
    have hcz17_1 : wc.cell? ⟨gb224, 1, none⟩ = some (.string a0_1) := (blk_cell BK224.out 1).trans rfl
    have hcz17_2 : wc.cell? ⟨gb224, 2, none⟩ = some (.int .i64 a0_2) := (blk_cell BK224.out 2).trans rfl
    have hcz17_3 : wc.cell? ⟨gb224, 3, none⟩ = some (.int .i64 a0_3) := (blk_cell BK224.out 3).trans rfl
    have hcz17_4 : wc.cell? ⟨gb224, 4, none⟩ = some (.slice A0_4 l0_4.length c0_4) := (blk_cell BK224.out 4).trans rfl
    have hfz17_0 := blk_frozen BK224.out 0
    have hfz17_1 := blk_frozen BK224.out 1
    have hfz17_2 := blk_frozen BK224.out 2
    have hfz17_3 := blk_frozen BK224.out 3
    have hfz17_4 := blk_frozen BK224.out 4
    go_wp2_with (first | ((with_reducible refine gate_callee (f := 73) rfl ?_); refine goesL_ (some 19) rfl rfl Try.func73 (by kernel_rfl) rfl #[.string a0_1] rfl (by (try simp only [List.map_toArray, List.map_cons, List.map_nil]); first | done | rfl | (simp only [List.length_drop, List.length_take]; rfl)) ?_; (with_reducible refine (assessorref02_Name.calls kj1 a0_1 t225 _ A16.out).mono ?_); rintro e w18 ⟨rfl, hb⟩; refine ⟨_, rfl, ?_⟩; have n0_ := Aside0.mk (blk_below (g := gb224) (o := .cells #[.int .i64 a0_0, .string a0_1, .int .i64 a0_2, .int .i64 a0_3, .slice A0_4 l0_4.length c0_4] 24 (0, 0)) (by (with_reducible repeat (first | refine blk_drewN ?_ _ | refine blk_drew ?_ | refine blk_alloc ?_ _)); exact BK224.out) hb); have n1_ := Aside0.mk (below_step (by repeat (first | (with_reducible first | exact HB.out | apply below_alloc | apply pw_below_drewN | apply below_drew1 | refine below_set ?_ GE224.out) | exact HB.out)) hb); clear BK224; clear HB; have BK224 := n0_; have HB := n1_; clear n0_ n1_; (try clear hb); (try clear hb2); (try clear hk); (try clear hi)))
    go_ret
    exact ⟨by first | rfl | (simp [errW_none, errW_some] <;> rfl) | (simp [*, errW_none, errW_some] <;> rfl) | (simp [IntKind.wrap_i64, wrap64]; done), by repeat (first | (with_reducible first | exact HB.out | apply below_alloc | apply pw_below_drewN | apply below_drew1 | refine below_set ?_ GE224.out) | exact HB.out)⟩
   ·replace c15 := Bool.eq_false_iff.mpr c15
    subst c15
    have H1 : (if a0_0 = 9 then (if a0_1.toList = ([105, 110, 116] : List UInt8) then (some true) else (if a0_1.toList = ([98, 111, 111, 108] : List UInt8) then (some true) else ((assessorref02_Name.f kj1 a0_1).bind fun t226 => (some t226)))) else (if a0_0 = 10 then (assessorref03_text.j1 kj1 a0_0 (a0_0 == 10) a0_0 a0_1 a0_2 a0_3 l0_4) else (assessorref03_text.j1 kj1 a0_0 (a0_0 == 24) a0_0 a0_1 a0_2 a0_3 l0_4))) = some r := by rw [if_neg (show ¬ (false = true) by decide)] at H; exact H
    clear H
    have H := H1
    clear H1
    by_cases c19 : a0_0 = 9
    ·rw [if_pos c19] at H
     have c19b0 : (a0_0 == 9) = true := beq_iff_eq.mpr c19
     have c19b1 : (a0_0 != 9) = false := bne_eq_false_iff_eq.mpr c19
     clear c19
     by_cases c20 : a0_1.toList = ([105, 110, 116] : List UInt8)
     ·rw [if_pos c20] at H
      have c20b0 : (a0_1.toList == ([105, 110, 116] : List UInt8)) = true := beq_iff_eq.mpr c20
      have c20b1 : (a0_1.toList != ([105, 110, 116] : List UInt8)) = false := bne_eq_false_iff_eq.mpr c20
      clear c20
      obtain rfl := Option.some.inj H
      have hcz21_0 : wc.cell? ⟨gb224, 0, none⟩ = some (.int .i64 a0_0) := (blk_cell BK224.out 0).trans rfl
      have hcz21_1 : wc.cell? ⟨gb224, 1, none⟩ = some (.string a0_1) := (blk_cell BK224.out 1).trans rfl
      have hcz21_2 : wc.cell? ⟨gb224, 2, none⟩ = some (.int .i64 a0_2) := (blk_cell BK224.out 2).trans rfl
      have hcz21_3 : wc.cell? ⟨gb224, 3, none⟩ = some (.int .i64 a0_3) := (blk_cell BK224.out 3).trans rfl
      have hcz21_4 : wc.cell? ⟨gb224, 4, none⟩ = some (.slice A0_4 l0_4.length c0_4) := (blk_cell BK224.out 4).trans rfl
      have hfz21_0 := blk_frozen BK224.out 0
      have hfz21_1 := blk_frozen BK224.out 1
      have hfz21_2 := blk_frozen BK224.out 2
      have hfz21_3 := blk_frozen BK224.out 3
      have hfz21_4 := blk_frozen BK224.out 4
      go_wp2
      go_ret
      exact ⟨by first | rfl | (simp [errW_none, errW_some] <;> rfl) | (simp [*, errW_none, errW_some] <;> rfl) | (simp [IntKind.wrap_i64, wrap64]; done), by repeat (first | (with_reducible first | exact HB.out | apply below_alloc | apply pw_below_drewN | apply below_drew1 | refine below_set ?_ GE224.out) | exact HB.out)⟩
     ·rw [if_neg c20] at H
      have c20b0 : (a0_1.toList == ([105, 110, 116] : List UInt8)) = false := beq_eq_false_iff_ne.mpr c20
      have c20b1 : (a0_1.toList != ([105, 110, 116] : List UInt8)) = true := bne_iff_ne.mpr c20
      by_cases c22 : a0_1.toList = ([98, 111, 111, 108] : List UInt8)
      ·rw [if_pos c22] at H
       have c22b0 : (a0_1.toList == ([98, 111, 111, 108] : List UInt8)) = true := beq_iff_eq.mpr c22
       have c22b1 : (a0_1.toList != ([98, 111, 111, 108] : List UInt8)) = false := bne_eq_false_iff_eq.mpr c22
       clear c22
       obtain rfl := Option.some.inj H
       have hcz23_0 : wc.cell? ⟨gb224, 0, none⟩ = some (.int .i64 a0_0) := (blk_cell BK224.out 0).trans rfl
       have hcz23_1 : wc.cell? ⟨gb224, 1, none⟩ = some (.string a0_1) := (blk_cell BK224.out 1).trans rfl
       have hcz23_2 : wc.cell? ⟨gb224, 2, none⟩ = some (.int .i64 a0_2) := (blk_cell BK224.out 2).trans rfl
       have hcz23_3 : wc.cell? ⟨gb224, 3, none⟩ = some (.int .i64 a0_3) := (blk_cell BK224.out 3).trans rfl
       have hcz23_4 : wc.cell? ⟨gb224, 4, none⟩ = some (.slice A0_4 l0_4.length c0_4) := (blk_cell BK224.out 4).trans rfl
       have hfz23_0 := blk_frozen BK224.out 0
       have hfz23_1 := blk_frozen BK224.out 1
       have hfz23_2 := blk_frozen BK224.out 2
       have hfz23_3 := blk_frozen BK224.out 3
       have hfz23_4 := blk_frozen BK224.out 4
       go_wp2
       go_ret
       exact ⟨by first | rfl | (simp [errW_none, errW_some] <;> rfl) | (simp [*, errW_none, errW_some] <;> rfl) | (simp [IntKind.wrap_i64, wrap64]; done), by repeat (first | (with_reducible first | exact HB.out | apply below_alloc | apply pw_below_drewN | apply below_drew1 | refine below_set ?_ GE224.out) | exact HB.out)⟩
      ·rw [if_neg c22] at H
       have c22b0 : (a0_1.toList == ([98, 111, 111, 108] : List UInt8)) = false := beq_eq_false_iff_ne.mpr c22
       have c22b1 : (a0_1.toList != ([98, 111, 111, 108] : List UInt8)) = true := bne_iff_ne.mpr c22
       replace H := Option.bind_eq_some_iff.mp H
       obtain ⟨t226, A240, H⟩ := H
       replace H : (some t226) = some r := H
       have A24 := Aside0.mk A240
       clear A240
       obtain rfl := Option.some.inj H
       have hcz25_0 : wc.cell? ⟨gb224, 0, none⟩ = some (.int .i64 a0_0) := (blk_cell BK224.out 0).trans rfl
       have hcz25_1 : wc.cell? ⟨gb224, 1, none⟩ = some (.string a0_1) := (blk_cell BK224.out 1).trans rfl
       have hcz25_2 : wc.cell? ⟨gb224, 2, none⟩ = some (.int .i64 a0_2) := (blk_cell BK224.out 2).trans rfl
       have hcz25_3 : wc.cell? ⟨gb224, 3, none⟩ = some (.int .i64 a0_3) := (blk_cell BK224.out 3).trans rfl
       have hcz25_4 : wc.cell? ⟨gb224, 4, none⟩ = some (.slice A0_4 l0_4.length c0_4) := (blk_cell BK224.out 4).trans rfl
       have hfz25_0 := blk_frozen BK224.out 0
       have hfz25_1 := blk_frozen BK224.out 1
       have hfz25_2 := blk_frozen BK224.out 2
       have hfz25_3 := blk_frozen BK224.out 3
       have hfz25_4 := blk_frozen BK224.out 4
       go_wp2_with (first | (go_at_call 73; (with_reducible refine (assessorref02_Name.calls kj1 a0_1 t226 _ A24.out).mono ?_); rintro e w26 ⟨rfl, hb⟩; have n0_ := Aside0.mk (blk_below (g := gb224) (o := .cells #[.int .i64 a0_0, .string a0_1, .int .i64 a0_2, .int .i64 a0_3, .slice A0_4 l0_4.length c0_4] 24 (0, 0)) (by (with_reducible repeat (first | refine blk_drewN ?_ _ | refine blk_drew ?_ | refine blk_alloc ?_ _)); exact BK224.out) hb); have n1_ := Aside0.mk (below_step (by repeat (first | (with_reducible first | exact HB.out | apply below_alloc | apply pw_below_drewN | apply below_drew1 | refine below_set ?_ GE224.out) | exact HB.out)) hb); clear BK224; clear HB; have BK224 := n0_; have HB := n1_; clear n0_ n1_; (try clear hb); (try clear hb2); (try clear hk); (try clear hi)))
       go_ret
       exact ⟨by first | rfl | (simp [errW_none, errW_some] <;> rfl) | (simp [*, errW_none, errW_some] <;> rfl) | (simp [IntKind.wrap_i64, wrap64]; done), by repeat (first | (with_reducible first | exact HB.out | apply below_alloc | apply pw_below_drewN | apply below_drew1 | refine below_set ?_ GE224.out) | exact HB.out)⟩
    ·rw [if_neg c19] at H
     have c19b0 : (a0_0 == 9) = false := beq_eq_false_iff_ne.mpr c19
     have c19b1 : (a0_0 != 9) = true := bne_iff_ne.mpr c19
     have HC27 := Aside0.mk H
     clear H
     go_upto_if 35 with (fail)
     go_cut [35] (fun v35 wc => ∃ (kq : Nat) (x35_26 : Bool), v35 = .bool x35_26 ∧ Aside0 (assessorref03_text.j1 kq a0_0 x35_26 a0_0 a0_1 a0_2 a0_3 l0_4 = some r) ∧ Aside0 (kq ≤ kj1) ∧ Aside0 (wc.heap[gb224]? = some (.cells #[.int .i64 a0_0, .string a0_1, .int .i64 a0_2, .int .i64 a0_3, (.slice A0_4 l0_4.length c0_4)] 24 (0, 0))) ∧ Aside0 (Below w.heap.size w wc))
     case first =>
      have H := HC27.out
      clear HC27
      by_cases c28 : a0_0 = 10
      ·rw [if_pos c28] at H
       have c28b0 : (a0_0 == 10) = true := beq_iff_eq.mpr c28
       have c28b1 : (a0_0 != 10) = false := bne_eq_false_iff_eq.mpr c28
       clear c28
       (first | rw [c28b0] | (simp only [i64_w, i32_w]; rw [c28b0]) | skip)
       have H' := Aside0.mk H
       clear H
       go_wp2
       go_meet
       case rel => exact ⟨_, ((a0_0 == 10)), (by first | rfl | (simp; done) | (simp [*]; done)), H', ⟨by have := HJ1.out; first | omega | exact Nat.le_refl _⟩, ⟨by (with_reducible repeat (first | refine blk_drewN ?_ _ | refine blk_drew ?_ | refine blk_alloc ?_ _)); exact BK224.out⟩, ⟨by repeat (first | (with_reducible first | exact HB.out | apply below_alloc | apply pw_below_drewN | apply below_drew1 | refine below_set ?_ GE224.out) | exact HB.out)⟩⟩
      ·rw [if_neg c28] at H
       have c28b0 : (a0_0 == 10) = false := beq_eq_false_iff_ne.mpr c28
       have c28b1 : (a0_0 != 10) = true := bne_iff_ne.mpr c28
       (first | rw [c28b0] | (simp only [i64_w, i32_w]; rw [c28b0]) | skip)
       have H' := Aside0.mk H
       clear H
       go_wp2
       go_meet
       case rel => exact ⟨_, ((a0_0 == 24)), (by first | rfl | (simp; done) | (simp [*]; done)), H', ⟨by have := HJ1.out; first | omega | exact Nat.le_refl _⟩, ⟨by (with_reducible repeat (first | refine blk_drewN ?_ _ | refine blk_drew ?_ | refine blk_alloc ?_ _)); exact BK224.out⟩, ⟨by repeat (first | (with_reducible first | exact HB.out | apply below_alloc | apply pw_below_drewN | apply below_drew1 | refine below_set ?_ GE224.out) | exact HB.out)⟩⟩
     case rest =>
      clear HC27
      try clear c1
      try clear c2
      try clear p2
      try clear c5
      try clear c5b0
      try clear c5b1
      try clear c6
      try clear c6b0
      try clear c6b1
      try clear c7
      try clear c7b0
      try clear c7b1
      try clear c8
      try clear c8b0
      try clear c8b1
      try clear c9
      try clear c9b0
      try clear c9b1
      try clear c10
      try clear c10b0
      try clear c10b1
      try clear c11
      try clear c11b0
      try clear c11b1
      try clear c12
      try clear c12b0
      try clear c12b1
      try clear c13
      try clear c13b0
      try clear c13b1
      try clear c14
      try clear c14b0
      try clear c14b1
      try clear c15
      try clear c19
      try clear c19b0
      try clear c19b1
      try clear c20
      try clear c20b0
      try clear c20b1
      try clear c22
      try clear c22b0
      try clear c22b1
      try clear c28
      try clear c28b0
      try clear c28b1
      try clear hcz17_0
      try clear hcz17_1
      try clear hcz17_2
      try clear hcz17_3
      try clear hcz17_4
      try clear hcz21_0
      try clear hcz21_1
      try clear hcz21_2
      try clear hcz21_3
      try clear hcz21_4
      try clear hcz23_0
      try clear hcz23_1
      try clear hcz23_2
      try clear hcz23_3
      try clear hcz23_4
      try clear hcz25_0
      try clear hcz25_1
      try clear hcz25_2
      try clear hcz25_3
      try clear hcz25_4
      try clear hcz4_0
      try clear hcz4_1
      try clear hcz4_2
      try clear hcz4_3
      try clear hcz4_4
      try clear hfz17_0
      try clear hfz17_1
      try clear hfz17_2
      try clear hfz17_3
      try clear hfz17_4
      try clear hfz21_0
      try clear hfz21_1
      try clear hfz21_2
      try clear hfz21_3
      try clear hfz21_4
      try clear hfz23_0
      try clear hfz23_1
      try clear hfz23_2
      try clear hfz23_3
      try clear hfz23_4
      try clear hfz25_0
      try clear hfz25_1
      try clear hfz25_2
      try clear hfz25_3
      try clear hfz25_4
      try clear hfz4_0
      try clear hfz4_1
      try clear hfz4_2
      try clear hfz4_3
      try clear hfz4_4
      try clear p2
      obtain ⟨kq, x35_26, rfl, HA, HJ26, BK224, HB⟩ := hcut
      cases kq with
      | zero => exact absurd HA.out (by simp [assessorref03_text.j1])
      | succ kj26 =>
       have H := HA.out
       clear HA
       simp only [assessorref03_text.j1] at H
       by_cases c29 : x35_26 = true
       ·subst c29
        have H1 : ((assessorref03_number.f kj26 a0_1).bind fun t227 => (some t227)) = some r := by rw [if_pos rfl] at H; exact H
        clear H
        have H := H1
        clear H1
        replace H := Option.bind_eq_some_iff.mp H
        obtain ⟨t227, A300, H⟩ := H
        replace H : (some t227) = some r := H
        have A30 := Aside0.mk A300
        clear A300
        obtain rfl := Option.some.inj H
        have hcz31_0 : wc.cell? ⟨gb224, 0, none⟩ = some (.int .i64 a0_0) := (blk_cell BK224.out 0).trans rfl
        have hcz31_1 : wc.cell? ⟨gb224, 1, none⟩ = some (.string a0_1) := (blk_cell BK224.out 1).trans rfl
        have hcz31_2 : wc.cell? ⟨gb224, 2, none⟩ = some (.int .i64 a0_2) := (blk_cell BK224.out 2).trans rfl
        have hcz31_3 : wc.cell? ⟨gb224, 3, none⟩ = some (.int .i64 a0_3) := (blk_cell BK224.out 3).trans rfl
        have hcz31_4 : wc.cell? ⟨gb224, 4, none⟩ = some (.slice A0_4 l0_4.length c0_4) := (blk_cell BK224.out 4).trans rfl
        have hfz31_0 := blk_frozen BK224.out 0
        have hfz31_1 := blk_frozen BK224.out 1
        have hfz31_2 := blk_frozen BK224.out 2
        have hfz31_3 := blk_frozen BK224.out 3
        have hfz31_4 := blk_frozen BK224.out 4
        go_wp2_with (first | ((with_reducible refine gate_callee (f := 74) rfl ?_); refine goesL_ (some 40) rfl rfl Try.func74 (by kernel_rfl) rfl #[.string a0_1] rfl (by (try simp only [List.map_toArray, List.map_cons, List.map_nil]); first | done | rfl | (simp only [List.length_drop, List.length_take]; rfl)) ?_; (with_reducible refine (assessorref03_number.calls kj26 a0_1 t227 _ A30.out).mono ?_); rintro e w' ⟨rfl, ⟨nd, rfl⟩⟩; refine ⟨_, rfl, ?_⟩))
        go_ret
        exact ⟨by first | rfl | (simp [errW_none, errW_some] <;> rfl) | (simp [*, errW_none, errW_some] <;> rfl) | (simp [IntKind.wrap_i64, wrap64]; done), by repeat (first | (with_reducible first | exact HB.out | apply below_alloc | apply pw_below_drewN | apply below_drew1 | refine below_set ?_ GE224.out) | exact HB.out)⟩
       ·replace c29 := Bool.eq_false_iff.mpr c29
        subst c29
        have H1 : (if a0_0 = 25 then (if a0_1.toList = ([116, 114, 117, 101] : List UInt8) then (some true) else (some (a0_1.toList == ([102, 97, 108, 115, 101] : List UInt8)))) else (if a0_0 = 28 then (if a0_1.toList = ([45] : List UInt8) then (some true) else (some (a0_1.toList == ([110, 111, 116] : List UInt8)))) else (if a0_0 = 29 then ((assessorref02_Has.f kj26 (([(⟨#[111, 114]⟩ : ByteArray), (⟨#[97, 110, 100]⟩ : ByteArray), (⟨#[61, 61]⟩ : ByteArray), (⟨#[33, 61]⟩ : ByteArray), (⟨#[60]⟩ : ByteArray), (⟨#[60, 61]⟩ : ByteArray), (⟨#[62]⟩ : ByteArray), (⟨#[62, 61]⟩ : ByteArray), (⟨#[43]⟩ : ByteArray), (⟨#[45]⟩ : ByteArray), (⟨#[42]⟩ : ByteArray), (⟨#[47]⟩ : ByteArray), (⟨#[37]⟩ : ByteArray)] : List ByteArray)) a0_1).bind fun t231 => (some t231)) else (some (a0_1.toList == ([] : List UInt8)))))) = some r := by rw [if_neg (show ¬ (false = true) by decide)] at H; exact H
        clear H
        have H := H1
        clear H1
        by_cases c32 : a0_0 = 25
        ·rw [if_pos c32] at H
         have c32b0 : (a0_0 == 25) = true := beq_iff_eq.mpr c32
         have c32b1 : (a0_0 != 25) = false := bne_eq_false_iff_eq.mpr c32
         clear c32
         by_cases c33 : a0_1.toList = ([116, 114, 117, 101] : List UInt8)
         ·rw [if_pos c33] at H
          have c33b0 : (a0_1.toList == ([116, 114, 117, 101] : List UInt8)) = true := beq_iff_eq.mpr c33
          have c33b1 : (a0_1.toList != ([116, 114, 117, 101] : List UInt8)) = false := bne_eq_false_iff_eq.mpr c33
          clear c33
          obtain rfl := Option.some.inj H
          have hcz34_0 : wc.cell? ⟨gb224, 0, none⟩ = some (.int .i64 a0_0) := (blk_cell BK224.out 0).trans rfl
          have hcz34_1 : wc.cell? ⟨gb224, 1, none⟩ = some (.string a0_1) := (blk_cell BK224.out 1).trans rfl
          have hcz34_2 : wc.cell? ⟨gb224, 2, none⟩ = some (.int .i64 a0_2) := (blk_cell BK224.out 2).trans rfl
          have hcz34_3 : wc.cell? ⟨gb224, 3, none⟩ = some (.int .i64 a0_3) := (blk_cell BK224.out 3).trans rfl
          have hcz34_4 : wc.cell? ⟨gb224, 4, none⟩ = some (.slice A0_4 l0_4.length c0_4) := (blk_cell BK224.out 4).trans rfl
          have hfz34_0 := blk_frozen BK224.out 0
          have hfz34_1 := blk_frozen BK224.out 1
          have hfz34_2 := blk_frozen BK224.out 2
          have hfz34_3 := blk_frozen BK224.out 3
          have hfz34_4 := blk_frozen BK224.out 4
          go_wp2
          go_ret
          exact ⟨by first | rfl | (simp [errW_none, errW_some] <;> rfl) | (simp [*, errW_none, errW_some] <;> rfl) | (simp [IntKind.wrap_i64, wrap64]; done), by repeat (first | (with_reducible first | exact HB.out | apply below_alloc | apply pw_below_drewN | apply below_drew1 | refine below_set ?_ GE224.out) | exact HB.out)⟩
         ·rw [if_neg c33] at H
          have c33b0 : (a0_1.toList == ([116, 114, 117, 101] : List UInt8)) = false := beq_eq_false_iff_ne.mpr c33
          have c33b1 : (a0_1.toList != ([116, 114, 117, 101] : List UInt8)) = true := bne_iff_ne.mpr c33
          obtain rfl := Option.some.inj H
          have hcz35_0 : wc.cell? ⟨gb224, 0, none⟩ = some (.int .i64 a0_0) := (blk_cell BK224.out 0).trans rfl
          have hcz35_1 : wc.cell? ⟨gb224, 1, none⟩ = some (.string a0_1) := (blk_cell BK224.out 1).trans rfl
          have hcz35_2 : wc.cell? ⟨gb224, 2, none⟩ = some (.int .i64 a0_2) := (blk_cell BK224.out 2).trans rfl
          have hcz35_3 : wc.cell? ⟨gb224, 3, none⟩ = some (.int .i64 a0_3) := (blk_cell BK224.out 3).trans rfl
          have hcz35_4 : wc.cell? ⟨gb224, 4, none⟩ = some (.slice A0_4 l0_4.length c0_4) := (blk_cell BK224.out 4).trans rfl
          have hfz35_0 := blk_frozen BK224.out 0
          have hfz35_1 := blk_frozen BK224.out 1
          have hfz35_2 := blk_frozen BK224.out 2
          have hfz35_3 := blk_frozen BK224.out 3
          have hfz35_4 := blk_frozen BK224.out 4
          go_wp2
          go_ret
          exact ⟨by first | rfl | (simp [errW_none, errW_some] <;> rfl) | (simp [*, errW_none, errW_some] <;> rfl) | (simp [IntKind.wrap_i64, wrap64]; done), by repeat (first | (with_reducible first | exact HB.out | apply below_alloc | apply pw_below_drewN | apply below_drew1 | refine below_set ?_ GE224.out) | exact HB.out)⟩
        ·rw [if_neg c32] at H
         have c32b0 : (a0_0 == 25) = false := beq_eq_false_iff_ne.mpr c32
         have c32b1 : (a0_0 != 25) = true := bne_iff_ne.mpr c32
         by_cases c36 : a0_0 = 28
         ·rw [if_pos c36] at H
          have c36b0 : (a0_0 == 28) = true := beq_iff_eq.mpr c36
          have c36b1 : (a0_0 != 28) = false := bne_eq_false_iff_eq.mpr c36
          clear c36
          by_cases c37 : a0_1.toList = ([45] : List UInt8)
          ·rw [if_pos c37] at H
           have c37b0 : (a0_1.toList == ([45] : List UInt8)) = true := beq_iff_eq.mpr c37
           have c37b1 : (a0_1.toList != ([45] : List UInt8)) = false := bne_eq_false_iff_eq.mpr c37
           clear c37
           obtain rfl := Option.some.inj H
           have hcz38_0 : wc.cell? ⟨gb224, 0, none⟩ = some (.int .i64 a0_0) := (blk_cell BK224.out 0).trans rfl
           have hcz38_1 : wc.cell? ⟨gb224, 1, none⟩ = some (.string a0_1) := (blk_cell BK224.out 1).trans rfl
           have hcz38_2 : wc.cell? ⟨gb224, 2, none⟩ = some (.int .i64 a0_2) := (blk_cell BK224.out 2).trans rfl
           have hcz38_3 : wc.cell? ⟨gb224, 3, none⟩ = some (.int .i64 a0_3) := (blk_cell BK224.out 3).trans rfl
           have hcz38_4 : wc.cell? ⟨gb224, 4, none⟩ = some (.slice A0_4 l0_4.length c0_4) := (blk_cell BK224.out 4).trans rfl
           have hfz38_0 := blk_frozen BK224.out 0
           have hfz38_1 := blk_frozen BK224.out 1
           have hfz38_2 := blk_frozen BK224.out 2
           have hfz38_3 := blk_frozen BK224.out 3
           have hfz38_4 := blk_frozen BK224.out 4
           go_wp2
           go_ret
           exact ⟨by first | rfl | (simp [errW_none, errW_some] <;> rfl) | (simp [*, errW_none, errW_some] <;> rfl) | (simp [IntKind.wrap_i64, wrap64]; done), by repeat (first | (with_reducible first | exact HB.out | apply below_alloc | apply pw_below_drewN | apply below_drew1 | refine below_set ?_ GE224.out) | exact HB.out)⟩
          ·rw [if_neg c37] at H
           have c37b0 : (a0_1.toList == ([45] : List UInt8)) = false := beq_eq_false_iff_ne.mpr c37
           have c37b1 : (a0_1.toList != ([45] : List UInt8)) = true := bne_iff_ne.mpr c37
           obtain rfl := Option.some.inj H
           have hcz39_0 : wc.cell? ⟨gb224, 0, none⟩ = some (.int .i64 a0_0) := (blk_cell BK224.out 0).trans rfl
           have hcz39_1 : wc.cell? ⟨gb224, 1, none⟩ = some (.string a0_1) := (blk_cell BK224.out 1).trans rfl
           have hcz39_2 : wc.cell? ⟨gb224, 2, none⟩ = some (.int .i64 a0_2) := (blk_cell BK224.out 2).trans rfl
           have hcz39_3 : wc.cell? ⟨gb224, 3, none⟩ = some (.int .i64 a0_3) := (blk_cell BK224.out 3).trans rfl
           have hcz39_4 : wc.cell? ⟨gb224, 4, none⟩ = some (.slice A0_4 l0_4.length c0_4) := (blk_cell BK224.out 4).trans rfl
           have hfz39_0 := blk_frozen BK224.out 0
           have hfz39_1 := blk_frozen BK224.out 1
           have hfz39_2 := blk_frozen BK224.out 2
           have hfz39_3 := blk_frozen BK224.out 3
           have hfz39_4 := blk_frozen BK224.out 4
           go_wp2
           go_ret
           exact ⟨by first | rfl | (simp [errW_none, errW_some] <;> rfl) | (simp [*, errW_none, errW_some] <;> rfl) | (simp [IntKind.wrap_i64, wrap64]; done), by repeat (first | (with_reducible first | exact HB.out | apply below_alloc | apply pw_below_drewN | apply below_drew1 | refine below_set ?_ GE224.out) | exact HB.out)⟩
         ·rw [if_neg c36] at H
          have c36b0 : (a0_0 == 28) = false := beq_eq_false_iff_ne.mpr c36
          have c36b1 : (a0_0 != 28) = true := bne_iff_ne.mpr c36
          by_cases c40 : a0_0 = 29
          ·rw [if_pos c40] at H
           have c40b0 : (a0_0 == 29) = true := beq_iff_eq.mpr c40
           have c40b1 : (a0_0 != 29) = false := bne_eq_false_iff_eq.mpr c40
           clear c40
           obtain ⟨y228, hy228⟩ : ∃ y_ : List ByteArray, y_ = (([(⟨#[111, 114]⟩ : ByteArray), (⟨#[97, 110, 100]⟩ : ByteArray), (⟨#[61, 61]⟩ : ByteArray), (⟨#[33, 61]⟩ : ByteArray), (⟨#[60]⟩ : ByteArray), (⟨#[60, 61]⟩ : ByteArray), (⟨#[62]⟩ : ByteArray), (⟨#[62, 61]⟩ : ByteArray), (⟨#[43]⟩ : ByteArray), (⟨#[45]⟩ : ByteArray), (⟨#[42]⟩ : ByteArray), (⟨#[47]⟩ : ByteArray), (⟨#[37]⟩ : ByteArray)] : List ByteArray)) := ⟨_, rfl⟩
           replace H : ((assessorref02_Has.f kj26 y228 a0_1).bind fun t231 => (some t231)) = some r := by first | (rw [hy228]; with_reducible exact H) | (have H2_ := (Option.bind_some _ _).symm.trans H; rw [hy228]; with_reducible exact H2_) | (have H2_ := (Option.bind_some _ _).symm.trans H; with_reducible exact H2_) | with_reducible exact H | (rw [hy228]; exact H) | exact H
           have Ny228 := Aside0.mk hy228
           clear hy228
           replace H := Option.bind_eq_some_iff.mp H
           obtain ⟨t231, A410, H⟩ := H
           replace H : (some t231) = some r := H
           have A41 := Aside0.mk A410
           clear A410
           obtain rfl := Option.some.inj H
           go_wp2_with (first | ((with_reducible refine gate_dst (N := 63) rfl ?_); refine Kd.R_lit Kd.string _ 9 ?hg (N := 63) ?hd (xs := ([(⟨#[111, 114]⟩ : ByteArray), (⟨#[97, 110, 100]⟩ : ByteArray), (⟨#[61, 61]⟩ : ByteArray), (⟨#[33, 61]⟩ : ByteArray), (⟨#[60]⟩ : ByteArray), (⟨#[60, 61]⟩ : ByteArray), (⟨#[62]⟩ : ByteArray), (⟨#[62, 61]⟩ : ByteArray), (⟨#[43]⟩ : ByteArray), (⟨#[45]⟩ : ByteArray), (⟨#[42]⟩ : ByteArray), (⟨#[47]⟩ : ByteArray), (⟨#[37]⟩ : ByteArray)] : List ByteArray)) (inner := [.string (⟨#[111, 114]⟩ : ByteArray), .string (⟨#[97, 110, 100]⟩ : ByteArray), .string (⟨#[61, 61]⟩ : ByteArray), .string (⟨#[33, 61]⟩ : ByteArray), .string (⟨#[60]⟩ : ByteArray), .string (⟨#[60, 61]⟩ : ByteArray), .string (⟨#[62]⟩ : ByteArray), .string (⟨#[62, 61]⟩ : ByteArray), .string (⟨#[43]⟩ : ByteArray), .string (⟨#[45]⟩ : ByteArray), .string (⟨#[42]⟩ : ByteArray), .string (⟨#[47]⟩ : ByteArray), .string (⟨#[37]⟩ : ByteArray)]) (ok := fun _ => True) (okp := fun _ => True) ?hr ?hp (fun _ hk => hk) trivial (Below.refl _ _) (Nat.le_refl _) (by simp) ?_; (case hd => rfl); (case hg => rfl); (case hr => first | (go_simp; done) | (go_simp; rfl)); (case hp => exact (Reps.one (show Kd.M Kd.string _ _ _ (⟨#[111, 114]⟩ : ByteArray) [.string (⟨#[111, 114]⟩ : ByteArray)] from rfl) (Reps.one (show Kd.M Kd.string _ _ _ (⟨#[97, 110, 100]⟩ : ByteArray) [.string (⟨#[97, 110, 100]⟩ : ByteArray)] from rfl) (Reps.one (show Kd.M Kd.string _ _ _ (⟨#[61, 61]⟩ : ByteArray) [.string (⟨#[61, 61]⟩ : ByteArray)] from rfl) (Reps.one (show Kd.M Kd.string _ _ _ (⟨#[33, 61]⟩ : ByteArray) [.string (⟨#[33, 61]⟩ : ByteArray)] from rfl) (Reps.one (show Kd.M Kd.string _ _ _ (⟨#[60]⟩ : ByteArray) [.string (⟨#[60]⟩ : ByteArray)] from rfl) (Reps.one (show Kd.M Kd.string _ _ _ (⟨#[60, 61]⟩ : ByteArray) [.string (⟨#[60, 61]⟩ : ByteArray)] from rfl) (Reps.one (show Kd.M Kd.string _ _ _ (⟨#[62]⟩ : ByteArray) [.string (⟨#[62]⟩ : ByteArray)] from rfl) (Reps.one (show Kd.M Kd.string _ _ _ (⟨#[62, 61]⟩ : ByteArray) [.string (⟨#[62, 61]⟩ : ByteArray)] from rfl) (Reps.one (show Kd.M Kd.string _ _ _ (⟨#[43]⟩ : ByteArray) [.string (⟨#[43]⟩ : ByteArray)] from rfl) (Reps.one (show Kd.M Kd.string _ _ _ (⟨#[45]⟩ : ByteArray) [.string (⟨#[45]⟩ : ByteArray)] from rfl) (Reps.one (show Kd.M Kd.string _ _ _ (⟨#[42]⟩ : ByteArray) [.string (⟨#[42]⟩ : ByteArray)] from rfl) (Reps.one (show Kd.M Kd.string _ _ _ (⟨#[47]⟩ : ByteArray) [.string (⟨#[47]⟩ : ByteArray)] from rfl) (Reps.one (show Kd.M Kd.string _ _ _ (⟨#[37]⟩ : ByteArray) [.string (⟨#[37]⟩ : ByteArray)] from rfl) (Reps.none _ _))))))))))))))); intro v229 w42 ho43 hb hg_ hnew_; clear hg_ hnew_; (first | rw [← Ny228.out] at ho43 | (simp only [Int.reduceToNat] at ho43; rw [← Ny228.out] at ho43)); have n0_ := Aside0.mk (Kd.R_lower ho43 (below_size (by repeat (first | (with_reducible first | exact HB.out | apply below_alloc | apply pw_below_drewN | apply below_drew1 | refine below_set ?_ GE224.out) | exact HB.out)))); have n1_ := Aside0.mk (blk_below (g := gb224) (o := .cells #[.int .i64 a0_0, .string a0_1, .int .i64 a0_2, .int .i64 a0_3, .slice A0_4 l0_4.length c0_4] 24 (0, 0)) (by (with_reducible repeat (first | refine blk_drewN ?_ _ | refine blk_drew ?_ | refine blk_alloc ?_ _)); exact BK224.out) hb); have n2_ := Aside0.mk (below_step (by repeat (first | (with_reducible first | exact HB.out | apply below_alloc | apply pw_below_drewN | apply below_drew1 | refine below_set ?_ GE224.out) | exact HB.out)) hb); clear BK224; clear HB; have HO230 := n0_; have BK224 := n1_; have HB := n2_; clear n0_ n1_ n2_; clear hb ho43; have hcz44_0 : w42.cell? ⟨gb224, 0, none⟩ = some (.int .i64 a0_0) := (blk_cell BK224.out 0).trans rfl; have hcz44_1 : w42.cell? ⟨gb224, 1, none⟩ = some (.string a0_1) := (blk_cell BK224.out 1).trans rfl; have hcz44_2 : w42.cell? ⟨gb224, 2, none⟩ = some (.int .i64 a0_2) := (blk_cell BK224.out 2).trans rfl; have hcz44_3 : w42.cell? ⟨gb224, 3, none⟩ = some (.int .i64 a0_3) := (blk_cell BK224.out 3).trans rfl; have hcz44_4 : w42.cell? ⟨gb224, 4, none⟩ = some (.slice A0_4 l0_4.length c0_4) := (blk_cell BK224.out 4).trans rfl; have hfz44_0 := blk_frozen BK224.out 0; have hfz44_1 := blk_frozen BK224.out 1; have hfz44_2 := blk_frozen BK224.out 2; have hfz44_3 := blk_frozen BK224.out 3; have hfz44_4 := blk_frozen BK224.out 4; obtain ⟨Ao45, co45, eo45⟩ := Kd.R_slice HO230.out; subst eo45) | ((with_reducible refine gate_callee (f := 75) rfl ?_); refine goesL_ (some 66) rfl rfl Try.func75 (by kernel_rfl) rfl #[.slice Ao45 y228.length co45, .string a0_1] rfl (by (try simp only [List.map_toArray, List.map_cons, List.map_nil]); first | done | rfl | (simp only [List.length_drop, List.length_take]; rfl)) ?_; (with_reducible refine (assessorref02_Has.calls kj26 _ _ y228 a0_1 t231 _ ?side1 ?side2 A41.out).mono ?_); (case side1 => repeat (first | exact (Kd.R_reads' HO230.out).2.2 | (with_reducible refine Kd.C_alloc ?_ _) | (with_reducible refine Kd.C_drewN ?_ _) | (with_reducible refine Kd.C_drew ?_))); (case side2 => exact (Kd.R_reads' HO230.out).2.1); rintro e w' ⟨rfl, ⟨nd, rfl⟩⟩; refine ⟨_, rfl, ?_⟩))
           go_ret
           exact ⟨by first | rfl | (simp [errW_none, errW_some] <;> rfl) | (simp [*, errW_none, errW_some] <;> rfl) | (simp [IntKind.wrap_i64, wrap64]; done), by repeat (first | (with_reducible first | exact HB.out | apply below_alloc | apply pw_below_drewN | apply below_drew1 | refine below_set ?_ GE224.out) | exact HB.out)⟩
          ·rw [if_neg c40] at H
           have c40b0 : (a0_0 == 29) = false := beq_eq_false_iff_ne.mpr c40
           have c40b1 : (a0_0 != 29) = true := bne_iff_ne.mpr c40
           obtain rfl := Option.some.inj H
           have hcz46_0 : wc.cell? ⟨gb224, 0, none⟩ = some (.int .i64 a0_0) := (blk_cell BK224.out 0).trans rfl
           have hcz46_1 : wc.cell? ⟨gb224, 1, none⟩ = some (.string a0_1) := (blk_cell BK224.out 1).trans rfl
           have hcz46_2 : wc.cell? ⟨gb224, 2, none⟩ = some (.int .i64 a0_2) := (blk_cell BK224.out 2).trans rfl
           have hcz46_3 : wc.cell? ⟨gb224, 3, none⟩ = some (.int .i64 a0_3) := (blk_cell BK224.out 3).trans rfl
           have hcz46_4 : wc.cell? ⟨gb224, 4, none⟩ = some (.slice A0_4 l0_4.length c0_4) := (blk_cell BK224.out 4).trans rfl
           have hfz46_0 := blk_frozen BK224.out 0
           have hfz46_1 := blk_frozen BK224.out 1
           have hfz46_2 := blk_frozen BK224.out 2
           have hfz46_3 := blk_frozen BK224.out 3
           have hfz46_4 := blk_frozen BK224.out 4
           go_wp2
           go_ret
           exact ⟨by first | rfl | (simp [errW_none, errW_some] <;> rfl) | (simp [*, errW_none, errW_some] <;> rfl) | (simp [IntKind.wrap_i64, wrap64]; done), by repeat (first | (with_reducible first | exact HB.out | apply below_alloc | apply pw_below_drewN | apply below_drew1 | refine below_set ?_ GE224.out) | exact HB.out)⟩

end Go.Proofs.Ytbheobngeocdfaa.PAll
