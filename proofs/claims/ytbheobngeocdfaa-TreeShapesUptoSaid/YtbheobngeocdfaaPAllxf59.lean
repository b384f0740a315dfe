/- What the machine's calls come to, function by function: printed by a program of this session after the kit's print; Lean checks it. SLIM -/
import Derived.Test.YtbheobngeocdfaaPAllx0
import Derived.Test.YtbheobngeocdfaaPAllxf58
namespace Go.Proofs.Ytbheobngeocdfaa.PAll
open Go.RowKit Go.Proofs.YtbheobngeocdfaaW.PrintWords Go.Proofs.YtbheobngeocdfaaW.PrintLast Go.Proofs.YtbheobngeocdfaaW.PrintMore
attribute [local go_sem] max2_int min2_int max_two min_two max_three min_three max_four min_four   -- for this text's walks alone
set_option linter.unusedVariables false
set_option linter.unusedSimpArgs false

/-! ### assessorref03_kid: function 59 -/
def assessorref03_kid.j0 : Nat → Int → Int → Int → Bool → Option (Bool)
 | 0, _, _, _, _ => none
 | k + 1, x1, x7, x10, x73 => if x73 = true then ((assessorref03_Type.f x7).bind fun t235 => (if t235 = true then (some true) else (some (x7 == 0)))) else (if x10 = 11 then ((assessorref03_IsStatement.f x7).bind fun t236 => (some t236)) else (if x10 = 12 then (if x1 = 0 then ((assessorref03_Type.f x7).bind fun t237 => (if t237 = true then (some true) else (if x7 = 0 then (some true) else (if x1 = 1 then ((assessorref03_IsExpression.f x7).bind fun t238 => (some t238)) else (some false))))) else (if x1 = 1 then ((assessorref03_IsExpression.f x7).bind fun t239 => (some t239)) else (some false))) else (if x10 = 13 then (if x1 = 0 then ((assessorref03_Place.f x7).bind fun t240 => (if t240 = true then (some true) else (if x1 = 1 then ((assessorref03_IsExpression.f x7).bind fun t241 => (some t241)) else (some false)))) else (if x1 = 1 then ((assessorref03_IsExpression.f x7).bind fun t242 => (some t242)) else (some false))) else (if x10 = 14 then (if x1 = 0 then ((assessorref03_IsExpression.f x7).bind fun t243 => (if t243 = true then (some true) else (if x1 = 1 then (if x7 = 11 then (some true) else (if x1 = 2 then (if x7 = 14 then (some true) else (some (x7 == 0))) else (some false))) else (if x1 = 2 then (if x7 = 11 then (some true) else (if x7 = 14 then (some true) else (some (x7 == 0)))) else (some false))))) else (if x1 = 1 then (if x7 = 11 then (some true) else (if x1 = 2 then (if x7 = 14 then (some true) else (some (x7 == 0))) else (some false))) else (if x1 = 2 then (if x7 = 11 then (some true) else (if x7 = 14 then (some true) else (some (x7 == 0)))) else (some false)))) else (if x10 = 15 then (if x1 = 0 then ((assessorref03_IsExpression.f x7).bind fun t244 => (if t244 = true then (some true) else (if x1 = 1 then (some (x7 == 11)) else (some false)))) else (if x1 = 1 then (some (x7 == 11)) else (some false))) else (if x10 = 16 then (if x1 < 2 then ((assessorref03_IsExpression.f x7).bind fun t245 => (if t245 = true then (some true) else (if x1 = 2 then (some (x7 == 11)) else (some false)))) else (if x1 = 2 then (some (x7 == 11)) else (some false))) else (if x10 = 17 then ((assessorref03_IsExpression.f x7).bind fun t246 => (if t246 = true then (some true) else (some (x7 == 0)))) else (if x10 = 21 then (if x1 = 0 then (if x7 = 20 then (some true) else (if x1 = 1 then ((assessorref03_IsExpression.f x7).bind fun t247 => (some t247)) else (some false))) else (if x1 = 1 then ((assessorref03_IsExpression.f x7).bind fun t248 => (some t248)) else (some false))) else (if x10 = 22 then (some (x7 == 20)) else (if x10 = 23 then (some (x7 == 20)) else ((assessorref03_IsExpression.f x7).bind fun t249 => (some t249))))))))))))
def assessorref03_kid.f (k : Nat) (a0 : Int) (a1 : Int) (a2_0 : Int) (a2_1 : ByteArray) (a2_2 : Int) (a2_3 : Int) (l2_4 : List (S24)) : Option (Bool) := if a0 = 2 then (if a2_0 = 3 then (some true) else (some (a2_0 == 5))) else (if a0 = 3 then (some (a2_0 == 4)) else (if a0 = 4 then (if a2_0 = 9 then (if a2_1.toList = ([105, 110, 116] : List UInt8) then (some true) else (some (a2_1.toList == ([98, 111, 111, 108] : List UInt8)))) else (some false)) else (if a0 = 5 then (if a1 = 0 then (if a2_0 = 6 then (some true) else (if a1 = 1 then ((assessorref03_Type.f a2_0).bind fun t233 => (if t233 = true then (some true) else (if a2_0 = 0 then (some true) else (if a1 = 2 then (some (a2_0 == 11)) else (some false))))) else (if a1 = 2 then (some (a2_0 == 11)) else (some false)))) else (if a1 = 1 then ((assessorref03_Type.f a2_0).bind fun t234 => (if t234 = true then (some true) else (if a2_0 = 0 then (some true) else (if a1 = 2 then (some (a2_0 == 11)) else (some false))))) else (if a1 = 2 then (some (a2_0 == 11)) else (some false)))) else (if a0 = 6 then (if a2_0 = 7 then (some true) else (some (a2_0 == 8))) else (if a0 = 7 then (assessorref03_kid.j0 k a1 a2_0 a0 (a0 == 7)) else (assessorref03_kid.j0 k a1 a2_0 a0 (a0 == 8)))))))
theorem assessorref03_kid.mono_l : ∀ k, (∀ y0 y1 y2 y3, LeO (assessorref03_kid.j0 k y0 y1 y2 y3) (assessorref03_kid.j0 (k + 1) y0 y1 y2 y3))
 | 0 => fun _ _ _ _ r h => by simp [assessorref03_kid.j0] at h
 | k + 1 => by
  have ih0 := assessorref03_kid.mono_l k
  ·intro y0 y1 y2 y3
   unfold assessorref03_kid.j0
   repeat' first
   | (with_reducible exact ih0 _ _ _ _)
   | (with_reducible exact LeO.refl _)
   | (with_reducible exact LeO.none _)
   | (with_reducible refine LeO.ite ?_ ?_)
   | (with_reducible refine LeO.bind ?_ (fun _ => ?_))
   | exact ih0 _ _ _ _
   | exact LeO.none _
   | refine LeO.ite ?_ ?_
   | refine LeO.bind ?_ (fun _ => ?_)
theorem assessorref03_kid.mono : ∀ a0 a1 a2 a3 a4 a5 a6 k, LeO (assessorref03_kid.f k a0 a1 a2 a3 a4 a5 a6) (assessorref03_kid.f (k + 1) a0 a1 a2 a3 a4 a5 a6) := by
 intro a0 a1 a2 a3 a4 a5 a6 k
 have ih0 := assessorref03_kid.mono_l k
 unfold assessorref03_kid.f
 repeat' first
   | (with_reducible exact ih0 _ _ _ _)
   | (with_reducible exact LeO.refl _)
   | (with_reducible exact LeO.none _)
   | (with_reducible refine LeO.ite ?_ ?_)
   | (with_reducible refine LeO.bind ?_ (fun _ => ?_))
   | exact ih0 _ _ _ _
   | exact LeO.none _
   | refine LeO.ite ?_ ?_
   | refine LeO.bind ?_ (fun _ => ?_)
set_option maxHeartbeats 8000000 in
set_option maxRecDepth 100000 in
theorem assessorref03_kid.calls (k : Nat) (a0 : Int) (a1 : Int) (a2_0 : Int) (a2_1 : ByteArray) (a2_2 : Int) (a2_3 : Int) (A2_4 : Option Addr) (c2_4 : Nat) (l2_4 : List (S24)) (r : Bool) (w : World) (hr2_4 : Kd.C k24 w A2_4 l2_4.length l2_4) (hc2_4 : l2_4.length ≤ c2_4) (h : assessorref03_kid.f k a0 a1 a2_0 a2_1 a2_2 a2_3 l2_4 = some r) :
  Calls Try.prog 59 #[.int .i64 a0, .int .i64 a1, .agg #[.int .i64 a2_0, .string a2_1, .int .i64 a2_2, .int .i64 a2_3, .slice A2_4 l2_4.length c2_4]] w fun e w' => e = .returned (.bool r) ∧ Below w.heap.size w w' := by
 have hu24 := Try.underlying24
 have HR2_4 := Aside0.mk hr2_4
 have HC2_4 := Aside0.mk hc2_4
 clear hr2_4 hc2_4
 have HB := Aside0.mk (Below.refl w.heap.size w)
 have H : (if a0 = 2 then (if a2_0 = 3 then (some true) else (some (a2_0 == 5))) else (if a0 = 3 then (some (a2_0 == 4)) else (if a0 = 4 then (if a2_0 = 9 then (if a2_1.toList = ([105, 110, 116] : List UInt8) then (some true) else (some (a2_1.toList == ([98, 111, 111, 108] : List UInt8)))) else (some false)) else (if a0 = 5 then (if a1 = 0 then (if a2_0 = 6 then (some true) else (if a1 = 1 then ((assessorref03_Type.f a2_0).bind fun t233 => (if t233 = true then (some true) else (if a2_0 = 0 then (some true) else (if a1 = 2 then (some (a2_0 == 11)) else (some false))))) else (if a1 = 2 then (some (a2_0 == 11)) else (some false)))) else (if a1 = 1 then ((assessorref03_Type.f a2_0).bind fun t234 => (if t234 = true then (some true) else (if a2_0 = 0 then (some true) else (if a1 = 2 then (some (a2_0 == 11)) else (some false))))) else (if a1 = 2 then (some (a2_0 == 11)) else (some false)))) else (if a0 = 6 then (if a2_0 = 7 then (some true) else (some (a2_0 == 8))) else (if a0 = 7 then (assessorref03_kid.j0 k a1 a2_0 a0 (a0 == 7)) else (assessorref03_kid.j0 k a1 a2_0 a0 (a0 == 8)))))))) = some r := h
 clear h
 by_cases c4 : a0 = 2
 ·rw [if_pos c4] at H
  have c4b0 : (a0 == 2) = true := beq_iff_eq.mpr c4
  have c4b1 : (a0 != 2) = false := bne_eq_false_iff_eq.mpr c4
  clear c4
  by_cases c5 : a2_0 = 3
  ·rw [if_pos c5] at H
   have c5b0 : (a2_0 == 3) = true := beq_iff_eq.mpr c5
   have c5b1 : (a2_0 != 3) = false := bne_eq_false_iff_eq.mpr c5
   clear c5
   obtain rfl := Option.some.inj H
   go_enter Try.func59, Try.ntmps59
   go_wp2_with (first | ((with_reducible refine gate_dst (N := 5) rfl ?_); refine box_event ?hg (N := 5) ?hd (cs := #[.int .i64 a2_0, .string a2_1, .int .i64 a2_2, .int .i64 a2_3, .slice A2_4 l2_4.length c2_4]) (t := 24) ?hr ?_; (case hd => rfl); (case hg => rfl); (case hr => first | (go_simp; done) | (go_simp; rfl)); intro gb232 hg w6 hbox hb; have n0_ := Aside0.mk (below_step (by repeat (first | (with_reducible first | exact HB.out | apply below_alloc | apply pw_below_drewN | apply below_drew1) | exact HB.out)) hb); have n1_ := Aside0.mk (hbox); have n2_ := Aside0.mk ((by rw [hg]; exact (below_size (by repeat (first | (with_reducible first | exact HB.out | apply below_alloc | apply pw_below_drewN | apply below_drew1) | exact HB.out))) : w.heap.size ≤ gb232)); have n3_ := Aside0.mk ((by rw [hg]; exact (below_size (by repeat (first | (with_reducible first | exact HB.out | apply below_alloc | apply pw_below_drewN | apply below_drew1) | exact HB.out))) : w.heap.size ≤ gb232)); clear HB; have HB := n0_; have BK232 := n1_; have GW232 := n2_; have GE232 := n3_; clear n0_ n1_ n2_ n3_; clear hb hbox hg; have hcz7_0 : w6.cell? ⟨gb232, 0, none⟩ = some (.int .i64 a2_0) := (blk_cell BK232.out 0).trans rfl; have hcz7_1 : w6.cell? ⟨gb232, 1, none⟩ = some (.string a2_1) := (blk_cell BK232.out 1).trans rfl; have hcz7_2 : w6.cell? ⟨gb232, 2, none⟩ = some (.int .i64 a2_2) := (blk_cell BK232.out 2).trans rfl; have hcz7_3 : w6.cell? ⟨gb232, 3, none⟩ = some (.int .i64 a2_3) := (blk_cell BK232.out 3).trans rfl; have hcz7_4 : w6.cell? ⟨gb232, 4, none⟩ = some (.slice A2_4 l2_4.length c2_4) := (blk_cell BK232.out 4).trans rfl; have hfz7_0 := blk_frozen BK232.out 0; have hfz7_1 := blk_frozen BK232.out 1; have hfz7_2 := blk_frozen BK232.out 2; have hfz7_3 := blk_frozen BK232.out 3; have hfz7_4 := blk_frozen BK232.out 4))
   go_ret
   exact ⟨by first | rfl | (simp [errW_none, errW_some] <;> rfl) | (simp [*, errW_none, errW_some] <;> rfl) | (simp [IntKind.wrap_i64, wrap64]; done), by repeat (first | (with_reducible first | exact HB.out | apply below_alloc | apply pw_below_drewN | apply below_drew1 | refine below_set ?_ GE232.out) | exact HB.out)⟩
  ·rw [if_neg c5] at H
   have c5b0 : (a2_0 == 3) = false := beq_eq_false_iff_ne.mpr c5
   have c5b1 : (a2_0 != 3) = true := bne_iff_ne.mpr c5
   obtain rfl := Option.some.inj H
   go_enter Try.func59, Try.ntmps59
   go_wp2_with (first | ((with_reducible refine gate_dst (N := 5) rfl ?_); refine box_event ?hg (N := 5) ?hd (cs := #[.int .i64 a2_0, .string a2_1, .int .i64 a2_2, .int .i64 a2_3, .slice A2_4 l2_4.length c2_4]) (t := 24) ?hr ?_; (case hd => rfl); (case hg => rfl); (case hr => first | (go_simp; done) | (go_simp; rfl)); intro gb232 hg w8 hbox hb; have n0_ := Aside0.mk (below_step (by repeat (first | (with_reducible first | exact HB.out | apply below_alloc | apply pw_below_drewN | apply below_drew1) | exact HB.out)) hb); have n1_ := Aside0.mk (hbox); have n2_ := Aside0.mk ((by rw [hg]; exact (below_size (by repeat (first | (with_reducible first | exact HB.out | apply below_alloc | apply pw_below_drewN | apply below_drew1) | exact HB.out))) : w.heap.size ≤ gb232)); have n3_ := Aside0.mk ((by rw [hg]; exact (below_size (by repeat (first | (with_reducible first | exact HB.out | apply below_alloc | apply pw_below_drewN | apply below_drew1) | exact HB.out))) : w.heap.size ≤ gb232)); clear HB; have HB := n0_; have BK232 := n1_; have GW232 := n2_; have GE232 := n3_; clear n0_ n1_ n2_ n3_; clear hb hbox hg; have hcz9_0 : w8.cell? ⟨gb232, 0, none⟩ = some (.int .i64 a2_0) := (blk_cell BK232.out 0).trans rfl; have hcz9_1 : w8.cell? ⟨gb232, 1, none⟩ = some (.string a2_1) := (blk_cell BK232.out 1).trans rfl; have hcz9_2 : w8.cell? ⟨gb232, 2, none⟩ = some (.int .i64 a2_2) := (blk_cell BK232.out 2).trans rfl; have hcz9_3 : w8.cell? ⟨gb232, 3, none⟩ = some (.int .i64 a2_3) := (blk_cell BK232.out 3).trans rfl; have hcz9_4 : w8.cell? ⟨gb232, 4, none⟩ = some (.slice A2_4 l2_4.length c2_4) := (blk_cell BK232.out 4).trans rfl; have hfz9_0 := blk_frozen BK232.out 0; have hfz9_1 := blk_frozen BK232.out 1; have hfz9_2 := blk_frozen BK232.out 2; have hfz9_3 := blk_frozen BK232.out 3; have hfz9_4 := blk_frozen BK232.out 4))
   go_ret
   exact ⟨by first | rfl | (simp [errW_none, errW_some] <;> rfl) | (simp [*, errW_none, errW_some] <;> rfl) | (simp [IntKind.wrap_i64, wrap64]; done), by repeat (first | (with_reducible first | exact HB.out | apply below_alloc | apply pw_below_drewN | apply below_drew1 | refine below_set ?_ GE232.out) | exact HB.out)⟩
 ·rw [if_neg c4] at H
  have c4b0 : (a0 == 2) = false := beq_eq_false_iff_ne.mpr c4
  have c4b1 : (a0 != 2) = true := bne_iff_ne.mpr c4
  by_cases c10 : a0 = 3
  ·rw [if_pos c10] at H
   have c10b0 : (a0 == 3) = true := beq_iff_eq.mpr c10
   have c10b1 : (a0 != 3) = false := bne_eq_false_iff_eq.mpr c10
   clear c10
   obtain rfl := Option.some.inj H
   go_enter Try.func59, Try.ntmps59
   go_wp2_with (first | ((with_reducible refine gate_dst (N := 5) rfl ?_); refine box_event ?hg (N := 5) ?hd (cs := #[.int .i64 a2_0, .string a2_1, .int .i64 a2_2, .int .i64 a2_3, .slice A2_4 l2_4.length c2_4]) (t := 24) ?hr ?_; (case hd => rfl); (case hg => rfl); (case hr => first | (go_simp; done) | (go_simp; rfl)); intro gb232 hg w11 hbox hb; have n0_ := Aside0.mk (below_step (by repeat (first | (with_reducible first | exact HB.out | apply below_alloc | apply pw_below_drewN | apply below_drew1) | exact HB.out)) hb); have n1_ := Aside0.mk (hbox); have n2_ := Aside0.mk ((by rw [hg]; exact (below_size (by repeat (first | (with_reducible first | exact HB.out | apply below_alloc | apply pw_below_drewN | apply below_drew1) | exact HB.out))) : w.heap.size ≤ gb232)); have n3_ := Aside0.mk ((by rw [hg]; exact (below_size (by repeat (first | (with_reducible first | exact HB.out | apply below_alloc | apply pw_below_drewN | apply below_drew1) | exact HB.out))) : w.heap.size ≤ gb232)); clear HB; have HB := n0_; have BK232 := n1_; have GW232 := n2_; have GE232 := n3_; clear n0_ n1_ n2_ n3_; clear hb hbox hg; have hcz12_0 : w11.cell? ⟨gb232, 0, none⟩ = some (.int .i64 a2_0) := (blk_cell BK232.out 0).trans rfl; have hcz12_1 : w11.cell? ⟨gb232, 1, none⟩ = some (.string a2_1) := (blk_cell BK232.out 1).trans rfl; have hcz12_2 : w11.cell? ⟨gb232, 2, none⟩ = some (.int .i64 a2_2) := (blk_cell BK232.out 2).trans rfl; have hcz12_3 : w11.cell? ⟨gb232, 3, none⟩ = some (.int .i64 a2_3) := (blk_cell BK232.out 3).trans rfl; have hcz12_4 : w11.cell? ⟨gb232, 4, none⟩ = some (.slice A2_4 l2_4.length c2_4) := (blk_cell BK232.out 4).trans rfl; have hfz12_0 := blk_frozen BK232.out 0; have hfz12_1 := blk_frozen BK232.out 1; have hfz12_2 := blk_frozen BK232.out 2; have hfz12_3 := blk_frozen BK232.out 3; have hfz12_4 := blk_frozen BK232.out 4))
   go_ret
   exact ⟨by first | rfl | (simp [errW_none, errW_some] <;> rfl) | (simp [*, errW_none, errW_some] <;> rfl) | (simp [IntKind.wrap_i64, wrap64]; done), by repeat (first | (with_reducible first | exact HB.out | apply below_alloc | apply pw_below_drewN | apply below_drew1 | refine below_set ?_ GE232.out) | exact HB.out)⟩
  ·rw [if_neg c10] at H
   have c10b0 : (a0 == 3) = false := beq_eq_false_iff_ne.mpr c10
   have c10b1 : (a0 != 3) = true := bne_iff_ne.mpr c10
   by_cases c13 : a0 = 4
   ·rw [if_pos c13] at H
    have c13b0 : (a0 == 4) = true := beq_iff_eq.mpr c13
    have c13b1 : (a0 != 4) = false := bne_eq_false_iff_eq.mpr c13
    clear c13
    by_cases c14 : a2_0 = 9
    ·rw [if_pos c14] at H
     have c14b0 : (a2_0 == 9) = true := beq_iff_eq.mpr c14
     have c14b1 : (a2_0 != 9) = false := bne_eq_false_iff_eq.mpr c14
     clear c14
     by_cases c15 : a2_1.toList = ([105, 110, 116] : List UInt8)
     ·rw [if_pos c15] at H
      have c15b0 : (a2_1.toList == ([105, 110, 116] : List UInt8)) = true := beq_iff_eq.mpr c15
      have c15b1 : (a2_1.toList != ([105, 110, 116] : List UInt8)) = false := bne_eq_false_iff_eq.mpr c15
      clear c15
      obtain rfl := Option.some.inj H
      go_enter Try.func59, Try.ntmps59
      go_wp2_with (first | ((with_reducible refine gate_dst (N := 5) rfl ?_); refine box_event ?hg (N := 5) ?hd (cs := #[.int .i64 a2_0, .string a2_1, .int .i64 a2_2, .int .i64 a2_3, .slice A2_4 l2_4.length c2_4]) (t := 24) ?hr ?_; (case hd => rfl); (case hg => rfl); (case hr => first | (go_simp; done) | (go_simp; rfl)); intro gb232 hg w16 hbox hb; have n0_ := Aside0.mk (below_step (by repeat (first | (with_reducible first | exact HB.out | apply below_alloc | apply pw_below_drewN | apply below_drew1) | exact HB.out)) hb); have n1_ := Aside0.mk (hbox); have n2_ := Aside0.mk ((by rw [hg]; exact (below_size (by repeat (first | (with_reducible first | exact HB.out | apply below_alloc | apply pw_below_drewN | apply below_drew1) | exact HB.out))) : w.heap.size ≤ gb232)); have n3_ := Aside0.mk ((by rw [hg]; exact (below_size (by repeat (first | (with_reducible first | exact HB.out | apply below_alloc | apply pw_below_drewN | apply below_drew1) | exact HB.out))) : w.heap.size ≤ gb232)); clear HB; have HB := n0_; have BK232 := n1_; have GW232 := n2_; have GE232 := n3_; clear n0_ n1_ n2_ n3_; clear hb hbox hg; have hcz17_0 : w16.cell? ⟨gb232, 0, none⟩ = some (.int .i64 a2_0) := (blk_cell BK232.out 0).trans rfl; have hcz17_1 : w16.cell? ⟨gb232, 1, none⟩ = some (.string a2_1) := (blk_cell BK232.out 1).trans rfl; have hcz17_2 : w16.cell? ⟨gb232, 2, none⟩ = some (.int .i64 a2_2) := (blk_cell BK232.out 2).trans rfl; have hcz17_3 : w16.cell? ⟨gb232, 3, none⟩ = some (.int .i64 a2_3) := (blk_cell BK232.out 3).trans rfl; have hcz17_4 : w16.cell? ⟨gb232, 4, none⟩ = some (.slice A2_4 l2_4.length c2_4) := (blk_cell BK232.out 4).trans rfl; have hfz17_0 := blk_frozen BK232.out 0; have hfz17_1 := blk_frozen BK232.out 1; have hfz17_2 := blk_frozen BK232.out 2; have hfz17_3 := blk_frozen BK232.out 3; have hfz17_4 := blk_frozen BK232.out 4))
      go_ret
      exact ⟨by first | rfl | (simp [errW_none, errW_some] <;> rfl) | (simp [*, errW_none, errW_some] <;> rfl) | (simp [IntKind.wrap_i64, wrap64]; done), by repeat (first | (with_reducible first | exact HB.out | apply below_alloc | apply pw_below_drewN | apply below_drew1 | refine below_set ?_ GE232.out) | exact HB.out)⟩
     ·rw [if_neg c15] at H
      have c15b0 : (a2_1.toList == ([105, 110, 116] : List UInt8)) = false := beq_eq_false_iff_ne.mpr c15
      have c15b1 : (a2_1.toList != ([105, 110, 116] : List UInt8)) = true := bne_iff_ne.mpr c15
      obtain rfl := Option.some.inj H
      go_enter Try.func59, Try.ntmps59
      go_wp2_with (first | ((with_reducible refine gate_dst (N := 5) rfl ?_); refine box_event ?hg (N := 5) ?hd (cs := #[.int .i64 a2_0, .string a2_1, .int .i64 a2_2, .int .i64 a2_3, .slice A2_4 l2_4.length c2_4]) (t := 24) ?hr ?_; (case hd => rfl); (case hg => rfl); (case hr => first | (go_simp; done) | (go_simp; rfl)); intro gb232 hg w18 hbox hb; have n0_ := Aside0.mk (below_step (by repeat (first | (with_reducible first | exact HB.out | apply below_alloc | apply pw_below_drewN | apply below_drew1) | exact HB.out)) hb); have n1_ := Aside0.mk (hbox); have n2_ := Aside0.mk ((by rw [hg]; exact (below_size (by repeat (first | (with_reducible first | exact HB.out | apply below_alloc | apply pw_below_drewN | apply below_drew1) | exact HB.out))) : w.heap.size ≤ gb232)); have n3_ := Aside0.mk ((by rw [hg]; exact (below_size (by repeat (first | (with_reducible first | exact HB.out | apply below_alloc | apply pw_below_drewN | apply below_drew1) | exact HB.out))) : w.heap.size ≤ gb232)); clear HB; have HB := n0_; have BK232 := n1_; have GW232 := n2_; have GE232 := n3_; clear n0_ n1_ n2_ n3_; clear hb hbox hg; have hcz19_0 : w18.cell? ⟨gb232, 0, none⟩ = some (.int .i64 a2_0) := (blk_cell BK232.out 0).trans rfl; have hcz19_1 : w18.cell? ⟨gb232, 1, none⟩ = some (.string a2_1) := (blk_cell BK232.out 1).trans rfl; have hcz19_2 : w18.cell? ⟨gb232, 2, none⟩ = some (.int .i64 a2_2) := (blk_cell BK232.out 2).trans rfl; have hcz19_3 : w18.cell? ⟨gb232, 3, none⟩ = some (.int .i64 a2_3) := (blk_cell BK232.out 3).trans rfl; have hcz19_4 : w18.cell? ⟨gb232, 4, none⟩ = some (.slice A2_4 l2_4.length c2_4) := (blk_cell BK232.out 4).trans rfl; have hfz19_0 := blk_frozen BK232.out 0; have hfz19_1 := blk_frozen BK232.out 1; have hfz19_2 := blk_frozen BK232.out 2; have hfz19_3 := blk_frozen BK232.out 3; have hfz19_4 := blk_frozen BK232.out 4))
      go_ret
      exact ⟨by first | rfl | (simp [errW_none, errW_some] <;> rfl) | (simp [*, errW_none, errW_some] <;> rfl) | (simp [IntKind.wrap_i64, wrap64]; done), by repeat (first | (with_reducible first | exact HB.out | apply below_alloc | apply pw_below_drewN | apply below_drew1 | refine below_set ?_ GE232.out) | exact HB.out)⟩
    ·rw [if_neg c14] at H
     have c14b0 : (a2_0 == 9) = false := beq_eq_false_iff_ne.mpr c14
     have c14b1 : (a2_0 != 9) = true := bne_iff_ne.mpr c14
     obtain rfl := Option.some.inj H
     go_enter Try.func59, Try.ntmps59
     go_wp2_with (first | ((with_reducible refine gate_dst (N := 5) rfl ?_); refine box_event ?hg (N := 5) ?hd (cs := #[.int .i64 a2_0, .string a2_1, .int .i64 a2_2, .int .i64 a2_3, .slice A2_4 l2_4.length c2_4]) (t := 24) ?hr ?_; (case hd => rfl); (case hg => rfl); (case hr => first | (go_simp; done) | (go_simp; rfl)); intro gb232 hg w20 hbox hb; have n0_ := Aside0.mk (below_step (by repeat (first | (with_reducible first | exact HB.out | apply below_alloc | apply pw_below_drewN | apply below_drew1) | exact HB.out)) hb); have n1_ := Aside0.mk (hbox); have n2_ := Aside0.mk ((by rw [hg]; exact (below_size (by repeat (first | (with_reducible first | exact HB.out | apply below_alloc | apply pw_below_drewN | apply below_drew1) | exact HB.out))) : w.heap.size ≤ gb232)); have n3_ := Aside0.mk ((by rw [hg]; exact (below_size (by repeat (first | (with_reducible first | exact HB.out | apply below_alloc | apply pw_below_drewN | apply below_drew1) | exact HB.out))) : w.heap.size ≤ gb232)); clear HB; have HB := n0_; have BK232 := n1_; have GW232 := n2_; have GE232 := n3_; clear n0_ n1_ n2_ n3_; clear hb hbox hg; have hcz21_0 : w20.cell? ⟨gb232, 0, none⟩ = some (.int .i64 a2_0) := (blk_cell BK232.out 0).trans rfl; have hcz21_1 : w20.cell? ⟨gb232, 1, none⟩ = some (.string a2_1) := (blk_cell BK232.out 1).trans rfl; have hcz21_2 : w20.cell? ⟨gb232, 2, none⟩ = some (.int .i64 a2_2) := (blk_cell BK232.out 2).trans rfl; have hcz21_3 : w20.cell? ⟨gb232, 3, none⟩ = some (.int .i64 a2_3) := (blk_cell BK232.out 3).trans rfl; have hcz21_4 : w20.cell? ⟨gb232, 4, none⟩ = some (.slice A2_4 l2_4.length c2_4) := (blk_cell BK232.out 4).trans rfl; have hfz21_0 := blk_frozen BK232.out 0; have hfz21_1 := blk_frozen BK232.out 1; have hfz21_2 := blk_frozen BK232.out 2; have hfz21_3 := blk_frozen BK232.out 3; have hfz21_4 := blk_frozen BK232.out 4))
     go_ret
     exact ⟨by first | rfl | (simp [errW_none, errW_some] <;> rfl) | (simp [*, errW_none, errW_some] <;> rfl) | (simp [IntKind.wrap_i64, wrap64]; done), by repeat (first | (with_reducible first | exact HB.out | apply below_alloc | apply pw_below_drewN | apply below_drew1 | refine below_set ?_ GE232.out) | exact HB.out)⟩
   ·rw [if_neg c13] at H
    have c13b0 : (a0 == 4) = false := beq_eq_false_iff_ne.mpr c13
    have c13b1 : (a0 != 4) = true := bne_iff_ne.mpr c13
    by_cases c22 : a0 = 5
    ·rw [if_pos c22] at H
     have c22b0 : (a0 == 5) = true := beq_iff_eq.mpr c22
     have c22b1 : (a0 != 5) = false := bne_eq_false_iff_eq.mpr c22
     clear c22
     by_cases c23 : a1 = 0
     ·rw [if_pos c23] at H
      have c23b0 : (a1 == 0) = true := beq_iff_eq.mpr c23
      have c23b1 : (a1 != 0) = false := bne_eq_false_iff_eq.mpr c23
      clear c23
      by_cases c24 : a2_0 = 6
      ·rw [if_pos c24] at H
       have c24b0 : (a2_0 == 6) = true := beq_iff_eq.mpr c24
       have c24b1 : (a2_0 != 6) = false := bne_eq_false_iff_eq.mpr c24
       clear c24
       obtain rfl := Option.some.inj H
       go_enter Try.func59, Try.ntmps59
       go_wp2_with (first | ((with_reducible refine gate_dst (N := 5) rfl ?_); refine box_event ?hg (N := 5) ?hd (cs := #[.int .i64 a2_0, .string a2_1, .int .i64 a2_2, .int .i64 a2_3, .slice A2_4 l2_4.length c2_4]) (t := 24) ?hr ?_; (case hd => rfl); (case hg => rfl); (case hr => first | (go_simp; done) | (go_simp; rfl)); intro gb232 hg w25 hbox hb; have n0_ := Aside0.mk (below_step (by repeat (first | (with_reducible first | exact HB.out | apply below_alloc | apply pw_below_drewN | apply below_drew1) | exact HB.out)) hb); have n1_ := Aside0.mk (hbox); have n2_ := Aside0.mk ((by rw [hg]; exact (below_size (by repeat (first | (with_reducible first | exact HB.out | apply below_alloc | apply pw_below_drewN | apply below_drew1) | exact HB.out))) : w.heap.size ≤ gb232)); have n3_ := Aside0.mk ((by rw [hg]; exact (below_size (by repeat (first | (with_reducible first | exact HB.out | apply below_alloc | apply pw_below_drewN | apply below_drew1) | exact HB.out))) : w.heap.size ≤ gb232)); clear HB; have HB := n0_; have BK232 := n1_; have GW232 := n2_; have GE232 := n3_; clear n0_ n1_ n2_ n3_; clear hb hbox hg; have hcz26_0 : w25.cell? ⟨gb232, 0, none⟩ = some (.int .i64 a2_0) := (blk_cell BK232.out 0).trans rfl; have hcz26_1 : w25.cell? ⟨gb232, 1, none⟩ = some (.string a2_1) := (blk_cell BK232.out 1).trans rfl; have hcz26_2 : w25.cell? ⟨gb232, 2, none⟩ = some (.int .i64 a2_2) := (blk_cell BK232.out 2).trans rfl; have hcz26_3 : w25.cell? ⟨gb232, 3, none⟩ = some (.int .i64 a2_3) := (blk_cell BK232.out 3).trans rfl; have hcz26_4 : w25.cell? ⟨gb232, 4, none⟩ = some (.slice A2_4 l2_4.length c2_4) := (blk_cell BK232.out 4).trans rfl; have hfz26_0 := blk_frozen BK232.out 0; have hfz26_1 := blk_frozen BK232.out 1; have hfz26_2 := blk_frozen BK232.out 2; have hfz26_3 := blk_frozen BK232.out 3; have hfz26_4 := blk_frozen BK232.out 4))
       go_ret
       exact ⟨by first | rfl | (simp [errW_none, errW_some] <;> rfl) | (simp [*, errW_none, errW_some] <;> rfl) | (simp [IntKind.wrap_i64, wrap64]; done), by repeat (first | (with_reducible first | exact HB.out | apply below_alloc | apply pw_below_drewN | apply below_drew1 | refine below_set ?_ GE232.out) | exact HB.out)⟩
      ·rw [if_neg c24] at H
       have c24b0 : (a2_0 == 6) = false := beq_eq_false_iff_ne.mpr c24
       have c24b1 : (a2_0 != 6) = true := bne_iff_ne.mpr c24
       by_cases c27 : a1 = 1
       ·rw [if_pos c27] at H
        have c27b0 : (a1 == 1) = true := beq_iff_eq.mpr c27
        have c27b1 : (a1 != 1) = false := bne_eq_false_iff_eq.mpr c27
        clear c27
        replace H := Option.bind_eq_some_iff.mp H
        obtain ⟨t233, A280, H⟩ := H
        replace H : (if t233 = true then (some true) else (if a2_0 = 0 then (some true) else (if a1 = 2 then (some (a2_0 == 11)) else (some false)))) = some r := H
        have A28 := Aside0.mk A280
        clear A280
        by_cases c29 : t233 = true
        ·subst c29
         have H1 : (some true) = some r := by rw [if_pos rfl] at H; exact H
         clear H
         have H := H1
         clear H1
         obtain rfl := Option.some.inj H
         go_enter Try.func59, Try.ntmps59
         go_wp2_with (first | ((with_reducible refine gate_dst (N := 5) rfl ?_); refine box_event ?hg (N := 5) ?hd (cs := #[.int .i64 a2_0, .string a2_1, .int .i64 a2_2, .int .i64 a2_3, .slice A2_4 l2_4.length c2_4]) (t := 24) ?hr ?_; (case hd => rfl); (case hg => rfl); (case hr => first | (go_simp; done) | (go_simp; rfl)); intro gb232 hg w30 hbox hb; have n0_ := Aside0.mk (below_step (by repeat (first | (with_reducible first | exact HB.out | apply below_alloc | apply pw_below_drewN | apply below_drew1) | exact HB.out)) hb); have n1_ := Aside0.mk (hbox); have n2_ := Aside0.mk ((by rw [hg]; exact (below_size (by repeat (first | (with_reducible first | exact HB.out | apply below_alloc | apply pw_below_drewN | apply below_drew1) | exact HB.out))) : w.heap.size ≤ gb232)); have n3_ := Aside0.mk ((by rw [hg]; exact (below_size (by repeat (first | (with_reducible first | exact HB.out | apply below_alloc | apply pw_below_drewN | apply below_drew1) | exact HB.out))) : w.heap.size ≤ gb232)); clear HB; have HB := n0_; have BK232 := n1_; have GW232 := n2_; have GE232 := n3_; clear n0_ n1_ n2_ n3_; clear hb hbox hg; have hcz31_0 : w30.cell? ⟨gb232, 0, none⟩ = some (.int .i64 a2_0) := (blk_cell BK232.out 0).trans rfl; have hcz31_1 : w30.cell? ⟨gb232, 1, none⟩ = some (.string a2_1) := (blk_cell BK232.out 1).trans rfl; have hcz31_2 : w30.cell? ⟨gb232, 2, none⟩ = some (.int .i64 a2_2) := (blk_cell BK232.out 2).trans rfl; have hcz31_3 : w30.cell? ⟨gb232, 3, none⟩ = some (.int .i64 a2_3) := (blk_cell BK232.out 3).trans rfl; have hcz31_4 : w30.cell? ⟨gb232, 4, none⟩ = some (.slice A2_4 l2_4.length c2_4) := (blk_cell BK232.out 4).trans rfl; have hfz31_0 := blk_frozen BK232.out 0; have hfz31_1 := blk_frozen BK232.out 1; have hfz31_2 := blk_frozen BK232.out 2; have hfz31_3 := blk_frozen BK232.out 3; have hfz31_4 := blk_frozen BK232.out 4) | (go_at_call 76; (with_reducible refine (assessorref03_Type.calls a2_0 true _ A28.out).mono ?_); rintro e w' ⟨rfl, ⟨nd, rfl⟩⟩))
         go_ret
         exact ⟨by first | rfl | (simp [errW_none, errW_some] <;> rfl) | (simp [*, errW_none, errW_some] <;> rfl) | (simp [IntKind.wrap_i64, wrap64]; done), by repeat (first | (with_reducible first | exact HB.out | apply below_alloc | apply pw_below_drewN | apply below_drew1 | refine below_set ?_ GE232.out) | exact HB.out)⟩
        ·replace c29 := Bool.eq_false_iff.mpr c29
         subst c29
         have H1 : (if a2_0 = 0 then (some true) else (if a1 = 2 then (some (a2_0 == 11)) else (some false))) = some r := by rw [if_neg (show ¬ (false = true) by decide)] at H; exact H
         clear H
         have H := H1
         clear H1
         by_cases c32 : a2_0 = 0
         ·rw [if_pos c32] at H
          have c32b0 : (a2_0 == 0) = true := beq_iff_eq.mpr c32
          have c32b1 : (a2_0 != 0) = false := bne_eq_false_iff_eq.mpr c32
          clear c32
          obtain rfl := Option.some.inj H
          go_enter Try.func59, Try.ntmps59
          go_wp2_with (first | ((with_reducible refine gate_dst (N := 5) rfl ?_); refine box_event ?hg (N := 5) ?hd (cs := #[.int .i64 a2_0, .string a2_1, .int .i64 a2_2, .int .i64 a2_3, .slice A2_4 l2_4.length c2_4]) (t := 24) ?hr ?_; (case hd => rfl); (case hg => rfl); (case hr => first | (go_simp; done) | (go_simp; rfl)); intro gb232 hg w33 hbox hb; have n0_ := Aside0.mk (below_step (by repeat (first | (with_reducible first | exact HB.out | apply below_alloc | apply pw_below_drewN | apply below_drew1) | exact HB.out)) hb); have n1_ := Aside0.mk (hbox); have n2_ := Aside0.mk ((by rw [hg]; exact (below_size (by repeat (first | (with_reducible first | exact HB.out | apply below_alloc | apply pw_below_drewN | apply below_drew1) | exact HB.out))) : w.heap.size ≤ gb232)); have n3_ := Aside0.mk ((by rw [hg]; exact (below_size (by repeat (first | (with_reducible first | exact HB.out | apply below_alloc | apply pw_below_drewN | apply below_drew1) | exact HB.out))) : w.heap.size ≤ gb232)); clear HB; have HB := n0_; have BK232 := n1_; have GW232 := n2_; have GE232 := n3_; clear n0_ n1_ n2_ n3_; clear hb hbox hg; have hcz34_0 : w33.cell? ⟨gb232, 0, none⟩ = some (.int .i64 a2_0) := (blk_cell BK232.out 0).trans rfl; have hcz34_1 : w33.cell? ⟨gb232, 1, none⟩ = some (.string a2_1) := (blk_cell BK232.out 1).trans rfl; have hcz34_2 : w33.cell? ⟨gb232, 2, none⟩ = some (.int .i64 a2_2) := (blk_cell BK232.out 2).trans rfl; have hcz34_3 : w33.cell? ⟨gb232, 3, none⟩ = some (.int .i64 a2_3) := (blk_cell BK232.out 3).trans rfl; have hcz34_4 : w33.cell? ⟨gb232, 4, none⟩ = some (.slice A2_4 l2_4.length c2_4) := (blk_cell BK232.out 4).trans rfl; have hfz34_0 := blk_frozen BK232.out 0; have hfz34_1 := blk_frozen BK232.out 1; have hfz34_2 := blk_frozen BK232.out 2; have hfz34_3 := blk_frozen BK232.out 3; have hfz34_4 := blk_frozen BK232.out 4) | (go_at_call 76; (with_reducible refine (assessorref03_Type.calls a2_0 false _ A28.out).mono ?_); rintro e w' ⟨rfl, ⟨nd, rfl⟩⟩))
          go_ret
          exact ⟨by first | rfl | (simp [errW_none, errW_some] <;> rfl) | (simp [*, errW_none, errW_some] <;> rfl) | (simp [IntKind.wrap_i64, wrap64]; done), by repeat (first | (with_reducible first | exact HB.out | apply below_alloc | apply pw_below_drewN | apply below_drew1 | refine below_set ?_ GE232.out) | exact HB.out)⟩
         ·rw [if_neg c32] at H
          have c32b0 : (a2_0 == 0) = false := beq_eq_false_iff_ne.mpr c32
          have c32b1 : (a2_0 != 0) = true := bne_iff_ne.mpr c32
          by_cases c35 : a1 = 2
          ·rw [if_pos c35] at H
           have c35b0 : (a1 == 2) = true := beq_iff_eq.mpr c35
           have c35b1 : (a1 != 2) = false := bne_eq_false_iff_eq.mpr c35
           clear c35
           obtain rfl := Option.some.inj H
           go_enter Try.func59, Try.ntmps59
           go_wp2_with (first | ((with_reducible refine gate_dst (N := 5) rfl ?_); refine box_event ?hg (N := 5) ?hd (cs := #[.int .i64 a2_0, .string a2_1, .int .i64 a2_2, .int .i64 a2_3, .slice A2_4 l2_4.length c2_4]) (t := 24) ?hr ?_; (case hd => rfl); (case hg => rfl); (case hr => first | (go_simp; done) | (go_simp; rfl)); intro gb232 hg w36 hbox hb; have n0_ := Aside0.mk (below_step (by repeat (first | (with_reducible first | exact HB.out | apply below_alloc | apply pw_below_drewN | apply below_drew1) | exact HB.out)) hb); have n1_ := Aside0.mk (hbox); have n2_ := Aside0.mk ((by rw [hg]; exact (below_size (by repeat (first | (with_reducible first | exact HB.out | apply below_alloc | apply pw_below_drewN | apply below_drew1) | exact HB.out))) : w.heap.size ≤ gb232)); have n3_ := Aside0.mk ((by rw [hg]; exact (below_size (by repeat (first | (with_reducible first | exact HB.out | apply below_alloc | apply pw_below_drewN | apply below_drew1) | exact HB.out))) : w.heap.size ≤ gb232)); clear HB; have HB := n0_; have BK232 := n1_; have GW232 := n2_; have GE232 := n3_; clear n0_ n1_ n2_ n3_; clear hb hbox hg; have hcz37_0 : w36.cell? ⟨gb232, 0, none⟩ = some (.int .i64 a2_0) := (blk_cell BK232.out 0).trans rfl; have hcz37_1 : w36.cell? ⟨gb232, 1, none⟩ = some (.string a2_1) := (blk_cell BK232.out 1).trans rfl; have hcz37_2 : w36.cell? ⟨gb232, 2, none⟩ = some (.int .i64 a2_2) := (blk_cell BK232.out 2).trans rfl; have hcz37_3 : w36.cell? ⟨gb232, 3, none⟩ = some (.int .i64 a2_3) := (blk_cell BK232.out 3).trans rfl; have hcz37_4 : w36.cell? ⟨gb232, 4, none⟩ = some (.slice A2_4 l2_4.length c2_4) := (blk_cell BK232.out 4).trans rfl; have hfz37_0 := blk_frozen BK232.out 0; have hfz37_1 := blk_frozen BK232.out 1; have hfz37_2 := blk_frozen BK232.out 2; have hfz37_3 := blk_frozen BK232.out 3; have hfz37_4 := blk_frozen BK232.out 4) | (go_at_call 76; (with_reducible refine (assessorref03_Type.calls a2_0 false _ A28.out).mono ?_); rintro e w' ⟨rfl, ⟨nd, rfl⟩⟩))
           go_ret
           exact ⟨by first | rfl | (simp [errW_none, errW_some] <;> rfl) | (simp [*, errW_none, errW_some] <;> rfl) | (simp [IntKind.wrap_i64, wrap64]; done), by repeat (first | (with_reducible first | exact HB.out | apply below_alloc | apply pw_below_drewN | apply below_drew1 | refine below_set ?_ GE232.out) | exact HB.out)⟩
          ·rw [if_neg c35] at H
           have c35b0 : (a1 == 2) = false := beq_eq_false_iff_ne.mpr c35
           have c35b1 : (a1 != 2) = true := bne_iff_ne.mpr c35
           obtain rfl := Option.some.inj H
           go_enter Try.func59, Try.ntmps59
           go_wp2_with (first | ((with_reducible refine gate_dst (N := 5) rfl ?_); refine box_event ?hg (N := 5) ?hd (cs := #[.int .i64 a2_0, .string a2_1, .int .i64 a2_2, .int .i64 a2_3, .slice A2_4 l2_4.length c2_4]) (t := 24) ?hr ?_; (case hd => rfl); (case hg => rfl); (case hr => first | (go_simp; done) | (go_simp; rfl)); intro gb232 hg w38 hbox hb; have n0_ := Aside0.mk (below_step (by repeat (first | (with_reducible first | exact HB.out | apply below_alloc | apply pw_below_drewN | apply below_drew1) | exact HB.out)) hb); have n1_ := Aside0.mk (hbox); have n2_ := Aside0.mk ((by rw [hg]; exact (below_size (by repeat (first | (with_reducible first | exact HB.out | apply below_alloc | apply pw_below_drewN | apply below_drew1) | exact HB.out))) : w.heap.size ≤ gb232)); have n3_ := Aside0.mk ((by rw [hg]; exact (below_size (by repeat (first | (with_reducible first | exact HB.out | apply below_alloc | apply pw_below_drewN | apply below_drew1) | exact HB.out))) : w.heap.size ≤ gb232)); clear HB; have HB := n0_; have BK232 := n1_; have GW232 := n2_; have GE232 := n3_; clear n0_ n1_ n2_ n3_; clear hb hbox hg; have hcz39_0 : w38.cell? ⟨gb232, 0, none⟩ = some (.int .i64 a2_0) := (blk_cell BK232.out 0).trans rfl; have hcz39_1 : w38.cell? ⟨gb232, 1, none⟩ = some (.string a2_1) := (blk_cell BK232.out 1).trans rfl; have hcz39_2 : w38.cell? ⟨gb232, 2, none⟩ = some (.int .i64 a2_2) := (blk_cell BK232.out 2).trans rfl; have hcz39_3 : w38.cell? ⟨gb232, 3, none⟩ = some (.int .i64 a2_3) := (blk_cell BK232.out 3).trans rfl; have hcz39_4 : w38.cell? ⟨gb232, 4, none⟩ = some (.slice A2_4 l2_4.length c2_4) := (blk_cell BK232.out 4).trans rfl; have hfz39_0 := blk_frozen BK232.out 0; have hfz39_1 := blk_frozen BK232.out 1; have hfz39_2 := blk_frozen BK232.out 2; have hfz39_3 := blk_frozen BK232.out 3; have hfz39_4 := blk_frozen BK232.out 4) | (go_at_call 76; (with_reducible refine (assessorref03_Type.calls a2_0 false _ A28.out).mono ?_); rintro e w' ⟨rfl, ⟨nd, rfl⟩⟩))
           go_ret
           exact ⟨by first | rfl | (simp [errW_none, errW_some] <;> rfl) | (simp [*, errW_none, errW_some] <;> rfl) | (simp [IntKind.wrap_i64, wrap64]; done), by repeat (first | (with_reducible first | exact HB.out | apply below_alloc | apply pw_below_drewN | apply below_drew1 | refine below_set ?_ GE232.out) | exact HB.out)⟩
       ·rw [if_neg c27] at H
        have c27b0 : (a1 == 1) = false := beq_eq_false_iff_ne.mpr c27
        have c27b1 : (a1 != 1) = true := bne_iff_ne.mpr c27
        by_cases c40 : a1 = 2
        ·rw [if_pos c40] at H
         have c40b0 : (a1 == 2) = true := beq_iff_eq.mpr c40
         have c40b1 : (a1 != 2) = false := bne_eq_false_iff_eq.mpr c40
         clear c40
         obtain rfl := Option.some.inj H
         go_enter Try.func59, Try.ntmps59
         go_wp2_with (first | ((with_reducible refine gate_dst (N := 5) rfl ?_); refine box_event ?hg (N := 5) ?hd (cs := #[.int .i64 a2_0, .string a2_1, .int .i64 a2_2, .int .i64 a2_3, .slice A2_4 l2_4.length c2_4]) (t := 24) ?hr ?_; (case hd => rfl); (case hg => rfl); (case hr => first | (go_simp; done) | (go_simp; rfl)); intro gb232 hg w41 hbox hb; have n0_ := Aside0.mk (below_step (by repeat (first | (with_reducible first | exact HB.out | apply below_alloc | apply pw_below_drewN | apply below_drew1) | exact HB.out)) hb); have n1_ := Aside0.mk (hbox); have n2_ := Aside0.mk ((by rw [hg]; exact (below_size (by repeat (first | (with_reducible first | exact HB.out | apply below_alloc | apply pw_below_drewN | apply below_drew1) | exact HB.out))) : w.heap.size ≤ gb232)); have n3_ := Aside0.mk ((by rw [hg]; exact (below_size (by repeat (first | (with_reducible first | exact HB.out | apply below_alloc | apply pw_below_drewN | apply below_drew1) | exact HB.out))) : w.heap.size ≤ gb232)); clear HB; have HB := n0_; have BK232 := n1_; have GW232 := n2_; have GE232 := n3_; clear n0_ n1_ n2_ n3_; clear hb hbox hg; have hcz42_0 : w41.cell? ⟨gb232, 0, none⟩ = some (.int .i64 a2_0) := (blk_cell BK232.out 0).trans rfl; have hcz42_1 : w41.cell? ⟨gb232, 1, none⟩ = some (.string a2_1) := (blk_cell BK232.out 1).trans rfl; have hcz42_2 : w41.cell? ⟨gb232, 2, none⟩ = some (.int .i64 a2_2) := (blk_cell BK232.out 2).trans rfl; have hcz42_3 : w41.cell? ⟨gb232, 3, none⟩ = some (.int .i64 a2_3) := (blk_cell BK232.out 3).trans rfl; have hcz42_4 : w41.cell? ⟨gb232, 4, none⟩ = some (.slice A2_4 l2_4.length c2_4) := (blk_cell BK232.out 4).trans rfl; have hfz42_0 := blk_frozen BK232.out 0; have hfz42_1 := blk_frozen BK232.out 1; have hfz42_2 := blk_frozen BK232.out 2; have hfz42_3 := blk_frozen BK232.out 3; have hfz42_4 := blk_frozen BK232.out 4))
         go_ret
         exact ⟨by first | rfl | (simp [errW_none, errW_some] <;> rfl) | (simp [*, errW_none, errW_some] <;> rfl) | (simp [IntKind.wrap_i64, wrap64]; done), by repeat (first | (with_reducible first | exact HB.out | apply below_alloc | apply pw_below_drewN | apply below_drew1 | refine below_set ?_ GE232.out) | exact HB.out)⟩
        ·rw [if_neg c40] at H
         have c40b0 : (a1 == 2) = false := beq_eq_false_iff_ne.mpr c40
         have c40b1 : (a1 != 2) = true := bne_iff_ne.mpr c40
         obtain rfl := Option.some.inj H
         go_enter Try.func59, Try.ntmps59
         go_wp2_with (first | ((with_reducible refine gate_dst (N := 5) rfl ?_); refine box_event ?hg (N := 5) ?hd (cs := #[.int .i64 a2_0, .string a2_1, .int .i64 a2_2, .int .i64 a2_3, .slice A2_4 l2_4.length c2_4]) (t := 24) ?hr ?_; (case hd => rfl); (case hg => rfl); (case hr => first | (go_simp; done) | (go_simp; rfl)); intro gb232 hg w43 hbox hb; have n0_ := Aside0.mk (below_step (by repeat (first | (with_reducible first | exact HB.out | apply below_alloc | apply pw_below_drewN | apply below_drew1) | exact HB.out)) hb); have n1_ := Aside0.mk (hbox); have n2_ := Aside0.mk ((by rw [hg]; exact (below_size (by repeat (first | (with_reducible first | exact HB.out | apply below_alloc | apply pw_below_drewN | apply below_drew1) | exact HB.out))) : w.heap.size ≤ gb232)); have n3_ := Aside0.mk ((by rw [hg]; exact (below_size (by repeat (first | (with_reducible first | exact HB.out | apply below_alloc | apply pw_below_drewN | apply below_drew1) | exact HB.out))) : w.heap.size ≤ gb232)); clear HB; have HB := n0_; have BK232 := n1_; have GW232 := n2_; have GE232 := n3_; clear n0_ n1_ n2_ n3_; clear hb hbox hg; have hcz44_0 : w43.cell? ⟨gb232, 0, none⟩ = some (.int .i64 a2_0) := (blk_cell BK232.out 0).trans rfl; have hcz44_1 : w43.cell? ⟨gb232, 1, none⟩ = some (.string a2_1) := (blk_cell BK232.out 1).trans rfl; have hcz44_2 : w43.cell? ⟨gb232, 2, none⟩ = some (.int .i64 a2_2) := (blk_cell BK232.out 2).trans rfl; have hcz44_3 : w43.cell? ⟨gb232, 3, none⟩ = some (.int .i64 a2_3) := (blk_cell BK232.out 3).trans rfl; have hcz44_4 : w43.cell? ⟨gb232, 4, none⟩ = some (.slice A2_4 l2_4.length c2_4) := (blk_cell BK232.out 4).trans rfl; have hfz44_0 := blk_frozen BK232.out 0; have hfz44_1 := blk_frozen BK232.out 1; have hfz44_2 := blk_frozen BK232.out 2; have hfz44_3 := blk_frozen BK232.out 3; have hfz44_4 := blk_frozen BK232.out 4))
         go_ret
         exact ⟨by first | rfl | (simp [errW_none, errW_some] <;> rfl) | (simp [*, errW_none, errW_some] <;> rfl) | (simp [IntKind.wrap_i64, wrap64]; done), by repeat (first | (with_reducible first | exact HB.out | apply below_alloc | apply pw_below_drewN | apply below_drew1 | refine below_set ?_ GE232.out) | exact HB.out)⟩
     ·rw [if_neg c23] at H
      have c23b0 : (a1 == 0) = false := beq_eq_false_iff_ne.mpr c23
      have c23b1 : (a1 != 0) = true := bne_iff_ne.mpr c23
      by_cases c45 : a1 = 1
      ·rw [if_pos c45] at H
       have c45b0 : (a1 == 1) = true := beq_iff_eq.mpr c45
       have c45b1 : (a1 != 1) = false := bne_eq_false_iff_eq.mpr c45
       clear c45
       replace H := Option.bind_eq_some_iff.mp H
       obtain ⟨t234, A460, H⟩ := H
       replace H : (if t234 = true then (some true) else (if a2_0 = 0 then (some true) else (if a1 = 2 then (some (a2_0 == 11)) else (some false)))) = some r := H
       have A46 := Aside0.mk A460
       clear A460
       by_cases c47 : t234 = true
       ·subst c47
        have H1 : (some true) = some r := by rw [if_pos rfl] at H; exact H
        clear H
        have H := H1
        clear H1
        obtain rfl := Option.some.inj H
        go_enter Try.func59, Try.ntmps59
        go_wp2_with (first | ((with_reducible refine gate_dst (N := 5) rfl ?_); refine box_event ?hg (N := 5) ?hd (cs := #[.int .i64 a2_0, .string a2_1, .int .i64 a2_2, .int .i64 a2_3, .slice A2_4 l2_4.length c2_4]) (t := 24) ?hr ?_; (case hd => rfl); (case hg => rfl); (case hr => first | (go_simp; done) | (go_simp; rfl)); intro gb232 hg w48 hbox hb; have n0_ := Aside0.mk (below_step (by repeat (first | (with_reducible first | exact HB.out | apply below_alloc | apply pw_below_drewN | apply below_drew1) | exact HB.out)) hb); have n1_ := Aside0.mk (hbox); have n2_ := Aside0.mk ((by rw [hg]; exact (below_size (by repeat (first | (with_reducible first | exact HB.out | apply below_alloc | apply pw_below_drewN | apply below_drew1) | exact HB.out))) : w.heap.size ≤ gb232)); have n3_ := Aside0.mk ((by rw [hg]; exact (below_size (by repeat (first | (with_reducible first | exact HB.out | apply below_alloc | apply pw_below_drewN | apply below_drew1) | exact HB.out))) : w.heap.size ≤ gb232)); clear HB; have HB := n0_; have BK232 := n1_; have GW232 := n2_; have GE232 := n3_; clear n0_ n1_ n2_ n3_; clear hb hbox hg; have hcz49_0 : w48.cell? ⟨gb232, 0, none⟩ = some (.int .i64 a2_0) := (blk_cell BK232.out 0).trans rfl; have hcz49_1 : w48.cell? ⟨gb232, 1, none⟩ = some (.string a2_1) := (blk_cell BK232.out 1).trans rfl; have hcz49_2 : w48.cell? ⟨gb232, 2, none⟩ = some (.int .i64 a2_2) := (blk_cell BK232.out 2).trans rfl; have hcz49_3 : w48.cell? ⟨gb232, 3, none⟩ = some (.int .i64 a2_3) := (blk_cell BK232.out 3).trans rfl; have hcz49_4 : w48.cell? ⟨gb232, 4, none⟩ = some (.slice A2_4 l2_4.length c2_4) := (blk_cell BK232.out 4).trans rfl; have hfz49_0 := blk_frozen BK232.out 0; have hfz49_1 := blk_frozen BK232.out 1; have hfz49_2 := blk_frozen BK232.out 2; have hfz49_3 := blk_frozen BK232.out 3; have hfz49_4 := blk_frozen BK232.out 4) | (go_at_call 76; (with_reducible refine (assessorref03_Type.calls a2_0 true _ A46.out).mono ?_); rintro e w' ⟨rfl, ⟨nd, rfl⟩⟩))
        go_ret
        exact ⟨by first | rfl | (simp [errW_none, errW_some] <;> rfl) | (simp [*, errW_none, errW_some] <;> rfl) | (simp [IntKind.wrap_i64, wrap64]; done), by repeat (first | (with_reducible first | exact HB.out | apply below_alloc | apply pw_below_drewN | apply below_drew1 | refine below_set ?_ GE232.out) | exact HB.out)⟩
       ·replace c47 := Bool.eq_false_iff.mpr c47
        subst c47
        have H1 : (if a2_0 = 0 then (some true) else (if a1 = 2 then (some (a2_0 == 11)) else (some false))) = some r := by rw [if_neg (show ¬ (false = true) by decide)] at H; exact H
        clear H
        have H := H1
        clear H1
        by_cases c50 : a2_0 = 0
        ·rw [if_pos c50] at H
         have c50b0 : (a2_0 == 0) = true := beq_iff_eq.mpr c50
         have c50b1 : (a2_0 != 0) = false := bne_eq_false_iff_eq.mpr c50
         clear c50
         obtain rfl := Option.some.inj H
         go_enter Try.func59, Try.ntmps59
         go_wp2_with (first | ((with_reducible refine gate_dst (N := 5) rfl ?_); refine box_event ?hg (N := 5) ?hd (cs := #[.int .i64 a2_0, .string a2_1, .int .i64 a2_2, .int .i64 a2_3, .slice A2_4 l2_4.length c2_4]) (t := 24) ?hr ?_; (case hd => rfl); (case hg => rfl); (case hr => first | (go_simp; done) | (go_simp; rfl)); intro gb232 hg w51 hbox hb; have n0_ := Aside0.mk (below_step (by repeat (first | (with_reducible first | exact HB.out | apply below_alloc | apply pw_below_drewN | apply below_drew1) | exact HB.out)) hb); have n1_ := Aside0.mk (hbox); have n2_ := Aside0.mk ((by rw [hg]; exact (below_size (by repeat (first | (with_reducible first | exact HB.out | apply below_alloc | apply pw_below_drewN | apply below_drew1) | exact HB.out))) : w.heap.size ≤ gb232)); have n3_ := Aside0.mk ((by rw [hg]; exact (below_size (by repeat (first | (with_reducible first | exact HB.out | apply below_alloc | apply pw_below_drewN | apply below_drew1) | exact HB.out))) : w.heap.size ≤ gb232)); clear HB; have HB := n0_; have BK232 := n1_; have GW232 := n2_; have GE232 := n3_; clear n0_ n1_ n2_ n3_; clear hb hbox hg; have hcz52_0 : w51.cell? ⟨gb232, 0, none⟩ = some (.int .i64 a2_0) := (blk_cell BK232.out 0).trans rfl; have hcz52_1 : w51.cell? ⟨gb232, 1, none⟩ = some (.string a2_1) := (blk_cell BK232.out 1).trans rfl; have hcz52_2 : w51.cell? ⟨gb232, 2, none⟩ = some (.int .i64 a2_2) := (blk_cell BK232.out 2).trans rfl; have hcz52_3 : w51.cell? ⟨gb232, 3, none⟩ = some (.int .i64 a2_3) := (blk_cell BK232.out 3).trans rfl; have hcz52_4 : w51.cell? ⟨gb232, 4, none⟩ = some (.slice A2_4 l2_4.length c2_4) := (blk_cell BK232.out 4).trans rfl; have hfz52_0 := blk_frozen BK232.out 0; have hfz52_1 := blk_frozen BK232.out 1; have hfz52_2 := blk_frozen BK232.out 2; have hfz52_3 := blk_frozen BK232.out 3; have hfz52_4 := blk_frozen BK232.out 4) | (go_at_call 76; (with_reducible refine (assessorref03_Type.calls a2_0 false _ A46.out).mono ?_); rintro e w' ⟨rfl, ⟨nd, rfl⟩⟩))
         go_ret
         exact ⟨by first | rfl | (simp [errW_none, errW_some] <;> rfl) | (simp [*, errW_none, errW_some] <;> rfl) | (simp [IntKind.wrap_i64, wrap64]; done), by repeat (first | (with_reducible first | exact HB.out | apply below_alloc | apply pw_below_drewN | apply below_drew1 | refine below_set ?_ GE232.out) | exact HB.out)⟩
        ·rw [if_neg c50] at H
         have c50b0 : (a2_0 == 0) = false := beq_eq_false_iff_ne.mpr c50
         have c50b1 : (a2_0 != 0) = true := bne_iff_ne.mpr c50
         by_cases c53 : a1 = 2
         ·rw [if_pos c53] at H
          have c53b0 : (a1 == 2) = true := beq_iff_eq.mpr c53
          have c53b1 : (a1 != 2) = false := bne_eq_false_iff_eq.mpr c53
          clear c53
          obtain rfl := Option.some.inj H
          go_enter Try.func59, Try.ntmps59
          go_wp2_with (first | ((with_reducible refine gate_dst (N := 5) rfl ?_); refine box_event ?hg (N := 5) ?hd (cs := #[.int .i64 a2_0, .string a2_1, .int .i64 a2_2, .int .i64 a2_3, .slice A2_4 l2_4.length c2_4]) (t := 24) ?hr ?_; (case hd => rfl); (case hg => rfl); (case hr => first | (go_simp; done) | (go_simp; rfl)); intro gb232 hg w54 hbox hb; have n0_ := Aside0.mk (below_step (by repeat (first | (with_reducible first | exact HB.out | apply below_alloc | apply pw_below_drewN | apply below_drew1) | exact HB.out)) hb); have n1_ := Aside0.mk (hbox); have n2_ := Aside0.mk ((by rw [hg]; exact (below_size (by repeat (first | (with_reducible first | exact HB.out | apply below_alloc | apply pw_below_drewN | apply below_drew1) | exact HB.out))) : w.heap.size ≤ gb232)); have n3_ := Aside0.mk ((by rw [hg]; exact (below_size (by repeat (first | (with_reducible first | exact HB.out | apply below_alloc | apply pw_below_drewN | apply below_drew1) | exact HB.out))) : w.heap.size ≤ gb232)); clear HB; have HB := n0_; have BK232 := n1_; have GW232 := n2_; have GE232 := n3_; clear n0_ n1_ n2_ n3_; clear hb hbox hg; have hcz55_0 : w54.cell? ⟨gb232, 0, none⟩ = some (.int .i64 a2_0) := (blk_cell BK232.out 0).trans rfl; have hcz55_1 : w54.cell? ⟨gb232, 1, none⟩ = some (.string a2_1) := (blk_cell BK232.out 1).trans rfl; have hcz55_2 : w54.cell? ⟨gb232, 2, none⟩ = some (.int .i64 a2_2) := (blk_cell BK232.out 2).trans rfl; have hcz55_3 : w54.cell? ⟨gb232, 3, none⟩ = some (.int .i64 a2_3) := (blk_cell BK232.out 3).trans rfl; have hcz55_4 : w54.cell? ⟨gb232, 4, none⟩ = some (.slice A2_4 l2_4.length c2_4) := (blk_cell BK232.out 4).trans rfl; have hfz55_0 := blk_frozen BK232.out 0; have hfz55_1 := blk_frozen BK232.out 1; have hfz55_2 := blk_frozen BK232.out 2; have hfz55_3 := blk_frozen BK232.out 3; have hfz55_4 := blk_frozen BK232.out 4) | (go_at_call 76; (with_reducible refine (assessorref03_Type.calls a2_0 false _ A46.out).mono ?_); rintro e w' ⟨rfl, ⟨nd, rfl⟩⟩))
          go_ret
          exact ⟨by first | rfl | (simp [errW_none, errW_some] <;> rfl) | (simp [*, errW_none, errW_some] <;> rfl) | (simp [IntKind.wrap_i64, wrap64]; done), by repeat (first | (with_reducible first | exact HB.out | apply below_alloc | apply pw_below_drewN | apply below_drew1 | refine below_set ?_ GE232.out) | exact HB.out)⟩
         ·rw [if_neg c53] at H
          have c53b0 : (a1 == 2) = false := beq_eq_false_iff_ne.mpr c53
          have c53b1 : (a1 != 2) = true := bne_iff_ne.mpr c53
          obtain rfl := Option.some.inj H
          go_enter Try.func59, Try.ntmps59
          go_wp2_with (first | ((with_reducible refine gate_dst (N := 5) rfl ?_); refine box_event ?hg (N := 5) ?hd (cs := #[.int .i64 a2_0, .string a2_1, .int .i64 a2_2, .int .i64 a2_3, .slice A2_4 l2_4.length c2_4]) (t := 24) ?hr ?_; (case hd => rfl); (case hg => rfl); (case hr => first | (go_simp; done) | (go_simp; rfl)); intro gb232 hg w56 hbox hb; have n0_ := Aside0.mk (below_step (by repeat (first | (with_reducible first | exact HB.out | apply below_alloc | apply pw_below_drewN | apply below_drew1) | exact HB.out)) hb); have n1_ := Aside0.mk (hbox); have n2_ := Aside0.mk ((by rw [hg]; exact (below_size (by repeat (first | (with_reducible first | exact HB.out | apply below_alloc | apply pw_below_drewN | apply below_drew1) | exact HB.out))) : w.heap.size ≤ gb232)); have n3_ := Aside0.mk ((by rw [hg]; exact (below_size (by repeat (first | (with_reducible first | exact HB.out | apply below_alloc | apply pw_below_drewN | apply below_drew1) | exact HB.out))) : w.heap.size ≤ gb232)); clear HB; have HB := n0_; have BK232 := n1_; have GW232 := n2_; have GE232 := n3_; clear n0_ n1_ n2_ n3_; clear hb hbox hg; have hcz57_0 : w56.cell? ⟨gb232, 0, none⟩ = some (.int .i64 a2_0) := (blk_cell BK232.out 0).trans rfl; have hcz57_1 : w56.cell? ⟨gb232, 1, none⟩ = some (.string a2_1) := (blk_cell BK232.out 1).trans rfl; have hcz57_2 : w56.cell? ⟨gb232, 2, none⟩ = some (.int .i64 a2_2) := (blk_cell BK232.out 2).trans rfl; have hcz57_3 : w56.cell? ⟨gb232, 3, none⟩ = some (.int .i64 a2_3) := (blk_cell BK232.out 3).trans rfl; have hcz57_4 : w56.cell? ⟨gb232, 4, none⟩ = some (.slice A2_4 l2_4.length c2_4) := (blk_cell BK232.out 4).trans rfl; have hfz57_0 := blk_frozen BK232.out 0; have hfz57_1 := blk_frozen BK232.out 1; have hfz57_2 := blk_frozen BK232.out 2; have hfz57_3 := blk_frozen BK232.out 3; have hfz57_4 := blk_frozen BK232.out 4) | (go_at_call 76; (with_reducible refine (assessorref03_Type.calls a2_0 false _ A46.out).mono ?_); rintro e w' ⟨rfl, ⟨nd, rfl⟩⟩))
          go_ret
          exact ⟨by first | rfl | (simp [errW_none, errW_some] <;> rfl) | (simp [*, errW_none, errW_some] <;> rfl) | (simp [IntKind.wrap_i64, wrap64]; done), by repeat (first | (with_reducible first | exact HB.out | apply below_alloc | apply pw_below_drewN | apply below_drew1 | refine below_set ?_ GE232.out) | exact HB.out)⟩
      ·rw [if_neg c45] at H
       have c45b0 : (a1 == 1) = false := beq_eq_false_iff_ne.mpr c45
       have c45b1 : (a1 != 1) = true := bne_iff_ne.mpr c45
       by_cases c58 : a1 = 2
       ·rw [if_pos c58] at H
        have c58b0 : (a1 == 2) = true := beq_iff_eq.mpr c58
        have c58b1 : (a1 != 2) = false := bne_eq_false_iff_eq.mpr c58
        clear c58
        obtain rfl := Option.some.inj H
        go_enter Try.func59, Try.ntmps59
        go_wp2_with (first | ((with_reducible refine gate_dst (N := 5) rfl ?_); refine box_event ?hg (N := 5) ?hd (cs := #[.int .i64 a2_0, .string a2_1, .int .i64 a2_2, .int .i64 a2_3, .slice A2_4 l2_4.length c2_4]) (t := 24) ?hr ?_; (case hd => rfl); (case hg => rfl); (case hr => first | (go_simp; done) | (go_simp; rfl)); intro gb232 hg w59 hbox hb; have n0_ := Aside0.mk (below_step (by repeat (first | (with_reducible first | exact HB.out | apply below_alloc | apply pw_below_drewN | apply below_drew1) | exact HB.out)) hb); have n1_ := Aside0.mk (hbox); have n2_ := Aside0.mk ((by rw [hg]; exact (below_size (by repeat (first | (with_reducible first | exact HB.out | apply below_alloc | apply pw_below_drewN | apply below_drew1) | exact HB.out))) : w.heap.size ≤ gb232)); have n3_ := Aside0.mk ((by rw [hg]; exact (below_size (by repeat (first | (with_reducible first | exact HB.out | apply below_alloc | apply pw_below_drewN | apply below_drew1) | exact HB.out))) : w.heap.size ≤ gb232)); clear HB; have HB := n0_; have BK232 := n1_; have GW232 := n2_; have GE232 := n3_; clear n0_ n1_ n2_ n3_; clear hb hbox hg; have hcz60_0 : w59.cell? ⟨gb232, 0, none⟩ = some (.int .i64 a2_0) := (blk_cell BK232.out 0).trans rfl; have hcz60_1 : w59.cell? ⟨gb232, 1, none⟩ = some (.string a2_1) := (blk_cell BK232.out 1).trans rfl; have hcz60_2 : w59.cell? ⟨gb232, 2, none⟩ = some (.int .i64 a2_2) := (blk_cell BK232.out 2).trans rfl; have hcz60_3 : w59.cell? ⟨gb232, 3, none⟩ = some (.int .i64 a2_3) := (blk_cell BK232.out 3).trans rfl; have hcz60_4 : w59.cell? ⟨gb232, 4, none⟩ = some (.slice A2_4 l2_4.length c2_4) := (blk_cell BK232.out 4).trans rfl; have hfz60_0 := blk_frozen BK232.out 0; have hfz60_1 := blk_frozen BK232.out 1; have hfz60_2 := blk_frozen BK232.out 2; have hfz60_3 := blk_frozen BK232.out 3; have hfz60_4 := blk_frozen BK232.out 4))
        go_ret
        exact ⟨by first | rfl | (simp [errW_none, errW_some] <;> rfl) | (simp [*, errW_none, errW_some] <;> rfl) | (simp [IntKind.wrap_i64, wrap64]; done), by repeat (first | (with_reducible first | exact HB.out | apply below_alloc | apply pw_below_drewN | apply below_drew1 | refine below_set ?_ GE232.out) | exact HB.out)⟩
       ·rw [if_neg c58] at H
        have c58b0 : (a1 == 2) = false := beq_eq_false_iff_ne.mpr c58
        have c58b1 : (a1 != 2) = true := bne_iff_ne.mpr c58
        obtain rfl := Option.some.inj H
        go_enter Try.func59, Try.ntmps59
        go_wp2_with (first | ((with_reducible refine gate_dst (N := 5) rfl ?_); refine box_event ?hg (N := 5) ?hd (cs := #[.int .i64 a2_0, .string a2_1, .int .i64 a2_2, .int .i64 a2_3, .slice A2_4 l2_4.length c2_4]) (t := 24) ?hr ?_; (case hd => rfl); (case hg => rfl); (case hr => first | (go_simp; done) | (go_simp; rfl)); intro gb232 hg w61 hbox hb; have n0_ := Aside0.mk (below_step (by repeat (first | (with_reducible first | exact HB.out | apply below_alloc | apply pw_below_drewN | apply below_drew1) | exact HB.out)) hb); have n1_ := Aside0.mk (hbox); have n2_ := Aside0.mk ((by rw [hg]; exact (below_size (by repeat (first | (with_reducible first | exact HB.out | apply below_alloc | apply pw_below_drewN | apply below_drew1) | exact HB.out))) : w.heap.size ≤ gb232)); have n3_ := Aside0.mk ((by rw [hg]; exact (below_size (by repeat (first | (with_reducible first | exact HB.out | apply below_alloc | apply pw_below_drewN | apply below_drew1) | exact HB.out))) : w.heap.size ≤ gb232)); clear HB; have HB := n0_; have BK232 := n1_; have GW232 := n2_; have GE232 := n3_; clear n0_ n1_ n2_ n3_; clear hb hbox hg; have hcz62_0 : w61.cell? ⟨gb232, 0, none⟩ = some (.int .i64 a2_0) := (blk_cell BK232.out 0).trans rfl; have hcz62_1 : w61.cell? ⟨gb232, 1, none⟩ = some (.string a2_1) := (blk_cell BK232.out 1).trans rfl; have hcz62_2 : w61.cell? ⟨gb232, 2, none⟩ = some (.int .i64 a2_2) := (blk_cell BK232.out 2).trans rfl; have hcz62_3 : w61.cell? ⟨gb232, 3, none⟩ = some (.int .i64 a2_3) := (blk_cell BK232.out 3).trans rfl; have hcz62_4 : w61.cell? ⟨gb232, 4, none⟩ = some (.slice A2_4 l2_4.length c2_4) := (blk_cell BK232.out 4).trans rfl; have hfz62_0 := blk_frozen BK232.out 0; have hfz62_1 := blk_frozen BK232.out 1; have hfz62_2 := blk_frozen BK232.out 2; have hfz62_3 := blk_frozen BK232.out 3; have hfz62_4 := blk_frozen BK232.out 4))
        go_ret
        exact ⟨by first | rfl | (simp [errW_none, errW_some] <;> rfl) | (simp [*, errW_none, errW_some] <;> rfl) | (simp [IntKind.wrap_i64, wrap64]; done), by repeat (first | (with_reducible first | exact HB.out | apply below_alloc | apply pw_below_drewN | apply below_drew1 | refine below_set ?_ GE232.out) | exact HB.out)⟩
    ·rw [if_neg c22] at H
     have c22b0 : (a0 == 5) = false := beq_eq_false_iff_ne.mpr c22
     have c22b1 : (a0 != 5) = true := bne_iff_ne.mpr c22
     by_cases c63 : a0 = 6
     ·rw [if_pos c63] at H
      have c63b0 : (a0 == 6) = true := beq_iff_eq.mpr c63
      have c63b1 : (a0 != 6) = false := bne_eq_false_iff_eq.mpr c63
      clear c63
      by_cases c64 : a2_0 = 7
      ·rw [if_pos c64] at H
       have c64b0 : (a2_0 == 7) = true := beq_iff_eq.mpr c64
       have c64b1 : (a2_0 != 7) = false := bne_eq_false_iff_eq.mpr c64
       clear c64
       obtain rfl := Option.some.inj H
       go_enter Try.func59, Try.ntmps59
       go_wp2_with (first | ((with_reducible refine gate_dst (N := 5) rfl ?_); refine box_event ?hg (N := 5) ?hd (cs := #[.int .i64 a2_0, .string a2_1, .int .i64 a2_2, .int .i64 a2_3, .slice A2_4 l2_4.length c2_4]) (t := 24) ?hr ?_; (case hd => rfl); (case hg => rfl); (case hr => first | (go_simp; done) | (go_simp; rfl)); intro gb232 hg w65 hbox hb; have n0_ := Aside0.mk (below_step (by repeat (first | (with_reducible first | exact HB.out | apply below_alloc | apply pw_below_drewN | apply below_drew1) | exact HB.out)) hb); have n1_ := Aside0.mk (hbox); have n2_ := Aside0.mk ((by rw [hg]; exact (below_size (by repeat (first | (with_reducible first | exact HB.out | apply below_alloc | apply pw_below_drewN | apply below_drew1) | exact HB.out))) : w.heap.size ≤ gb232)); have n3_ := Aside0.mk ((by rw [hg]; exact (below_size (by repeat (first | (with_reducible first | exact HB.out | apply below_alloc | apply pw_below_drewN | apply below_drew1) | exact HB.out))) : w.heap.size ≤ gb232)); clear HB; have HB := n0_; have BK232 := n1_; have GW232 := n2_; have GE232 := n3_; clear n0_ n1_ n2_ n3_; clear hb hbox hg; have hcz66_0 : w65.cell? ⟨gb232, 0, none⟩ = some (.int .i64 a2_0) := (blk_cell BK232.out 0).trans rfl; have hcz66_1 : w65.cell? ⟨gb232, 1, none⟩ = some (.string a2_1) := (blk_cell BK232.out 1).trans rfl; have hcz66_2 : w65.cell? ⟨gb232, 2, none⟩ = some (.int .i64 a2_2) := (blk_cell BK232.out 2).trans rfl; have hcz66_3 : w65.cell? ⟨gb232, 3, none⟩ = some (.int .i64 a2_3) := (blk_cell BK232.out 3).trans rfl; have hcz66_4 : w65.cell? ⟨gb232, 4, none⟩ = some (.slice A2_4 l2_4.length c2_4) := (blk_cell BK232.out 4).trans rfl; have hfz66_0 := blk_frozen BK232.out 0; have hfz66_1 := blk_frozen BK232.out 1; have hfz66_2 := blk_frozen BK232.out 2; have hfz66_3 := blk_frozen BK232.out 3; have hfz66_4 := blk_frozen BK232.out 4))
       go_ret
       exact ⟨by first | rfl | (simp [errW_none, errW_some] <;> rfl) | (simp [*, errW_none, errW_some] <;> rfl) | (simp [IntKind.wrap_i64, wrap64]; done), by repeat (first | (with_reducible first | exact HB.out | apply below_alloc | apply pw_below_drewN | apply below_drew1 | refine below_set ?_ GE232.out) | exact HB.out)⟩
      ·rw [if_neg c64] at H
       have c64b0 : (a2_0 == 7) = false := beq_eq_false_iff_ne.mpr c64
       have c64b1 : (a2_0 != 7) = true := bne_iff_ne.mpr c64
       obtain rfl := Option.some.inj H
       go_enter Try.func59, Try.ntmps59
       go_wp2_with (first | ((with_reducible refine gate_dst (N := 5) rfl ?_); refine box_event ?hg (N := 5) ?hd (cs := #[.int .i64 a2_0, .string a2_1, .int .i64 a2_2, .int .i64 a2_3, .slice A2_4 l2_4.length c2_4]) (t := 24) ?hr ?_; (case hd => rfl); (case hg => rfl); (case hr => first | (go_simp; done) | (go_simp; rfl)); intro gb232 hg w67 hbox hb; have n0_ := Aside0.mk (below_step (by repeat (first | (with_reducible first | exact HB.out | apply below_alloc | apply pw_below_drewN | apply below_drew1) | exact HB.out)) hb); have n1_ := Aside0.mk (hbox); have n2_ := Aside0.mk ((by rw [hg]; exact (below_size (by repeat (first | (with_reducible first | exact HB.out | apply below_alloc | apply pw_below_drewN | apply below_drew1) | exact HB.out))) : w.heap.size ≤ gb232)); have n3_ := Aside0.mk ((by rw [hg]; exact (below_size (by repeat (first | (with_reducible first | exact HB.out | apply below_alloc | apply pw_below_drewN | apply below_drew1) | exact HB.out))) : w.heap.size ≤ gb232)); clear HB; have HB := n0_; have BK232 := n1_; have GW232 := n2_; have GE232 := n3_; clear n0_ n1_ n2_ n3_; clear hb hbox hg; have hcz68_0 : w67.cell? ⟨gb232, 0, none⟩ = some (.int .i64 a2_0) := (blk_cell BK232.out 0).trans rfl; have hcz68_1 : w67.cell? ⟨gb232, 1, none⟩ = some (.string a2_1) := (blk_cell BK232.out 1).trans rfl; have hcz68_2 : w67.cell? ⟨gb232, 2, none⟩ = some (.int .i64 a2_2) := (blk_cell BK232.out 2).trans rfl; have hcz68_3 : w67.cell? ⟨gb232, 3, none⟩ = some (.int .i64 a2_3) := (blk_cell BK232.out 3).trans rfl; have hcz68_4 : w67.cell? ⟨gb232, 4, none⟩ = some (.slice A2_4 l2_4.length c2_4) := (blk_cell BK232.out 4).trans rfl; have hfz68_0 := blk_frozen BK232.out 0; have hfz68_1 := blk_frozen BK232.out 1; have hfz68_2 := blk_frozen BK232.out 2; have hfz68_3 := blk_frozen BK232.out 3; have hfz68_4 := blk_frozen BK232.out 4))
       go_ret
       exact ⟨by first | rfl | (simp [errW_none, errW_some] <;> rfl) | (simp [*, errW_none, errW_some] <;> rfl) | (simp [IntKind.wrap_i64, wrap64]; done), by repeat (first | (with_reducible first | exact HB.out | apply below_alloc | apply pw_below_drewN | apply below_drew1 | refine below_set ?_ GE232.out) | exact HB.out)⟩
     ·rw [if_neg c63] at H
      have c63b0 : (a0 == 6) = false := beq_eq_false_iff_ne.mpr c63
      have c63b1 : (a0 != 6) = true := bne_iff_ne.mpr c63
      have HC69 := Aside0.mk H
      clear H
      go_enter Try.func59, Try.ntmps59
      go_upto_if 73 with (first | ((with_reducible refine gate_dst (N := 5) rfl ?_); refine box_event ?hg (N := 5) ?hd (cs := #[.int .i64 a2_0, .string a2_1, .int .i64 a2_2, .int .i64 a2_3, .slice A2_4 l2_4.length c2_4]) (t := 24) ?hr ?_; (case hd => rfl); (case hg => rfl); (case hr => first | (go_simp; done) | (go_simp; rfl)); intro gb232 hg w70 hbox hb; have n0_ := Aside0.mk (below_step (by repeat (first | (with_reducible first | exact HB.out | apply below_alloc | apply pw_below_drewN | apply below_drew1) | exact HB.out)) hb); have n1_ := Aside0.mk (hbox); have n2_ := Aside0.mk ((by rw [hg]; exact (below_size (by repeat (first | (with_reducible first | exact HB.out | apply below_alloc | apply pw_below_drewN | apply below_drew1) | exact HB.out))) : w.heap.size ≤ gb232)); have n3_ := Aside0.mk ((by rw [hg]; exact (below_size (by repeat (first | (with_reducible first | exact HB.out | apply below_alloc | apply pw_below_drewN | apply below_drew1) | exact HB.out))) : w.heap.size ≤ gb232)); clear HB; have HB := n0_; have BK232 := n1_; have GW232 := n2_; have GE232 := n3_; clear n0_ n1_ n2_ n3_; clear hb hbox hg; have hcz71_0 : w70.cell? ⟨gb232, 0, none⟩ = some (.int .i64 a2_0) := (blk_cell BK232.out 0).trans rfl; have hcz71_1 : w70.cell? ⟨gb232, 1, none⟩ = some (.string a2_1) := (blk_cell BK232.out 1).trans rfl; have hcz71_2 : w70.cell? ⟨gb232, 2, none⟩ = some (.int .i64 a2_2) := (blk_cell BK232.out 2).trans rfl; have hcz71_3 : w70.cell? ⟨gb232, 3, none⟩ = some (.int .i64 a2_3) := (blk_cell BK232.out 3).trans rfl; have hcz71_4 : w70.cell? ⟨gb232, 4, none⟩ = some (.slice A2_4 l2_4.length c2_4) := (blk_cell BK232.out 4).trans rfl; have hfz71_0 := blk_frozen BK232.out 0; have hfz71_1 := blk_frozen BK232.out 1; have hfz71_2 := blk_frozen BK232.out 2; have hfz71_3 := blk_frozen BK232.out 3; have hfz71_4 := blk_frozen BK232.out 4))
      (try simp only [Act.put, List.setIfInBounds_toArray, List.set_cons_zero, List.set_cons_succ])
      go_cut [73] (fun v73 wc => ∃ (kq : Nat) (x73_68 : Bool), v73 = .bool x73_68 ∧ Aside0 (assessorref03_kid.j0 kq a1 a2_0 a0 x73_68 = some r) ∧ Aside0 (kq ≤ k) ∧ Aside0 (wc.heap[gb232]? = some (.cells #[.int .i64 a2_0, .string a2_1, .int .i64 a2_2, .int .i64 a2_3, (.slice A2_4 l2_4.length c2_4)] 24 (0, 0))) ∧ Aside0 (Below w.heap.size w wc))
      case first =>
       have H := HC69.out
       clear HC69
       by_cases c72 : a0 = 7
       ·rw [if_pos c72] at H
        have c72b0 : (a0 == 7) = true := beq_iff_eq.mpr c72
        have c72b1 : (a0 != 7) = false := bne_eq_false_iff_eq.mpr c72
        clear c72
        (first | rw [c72b0] | (simp only [i64_w, i32_w]; rw [c72b0]) | skip)
        have H' := Aside0.mk H
        clear H
        go_wp2
        go_meet
        case rel => exact ⟨_, ((a0 == 7)), (by first | rfl | (simp; done) | (simp [*]; done)), H', ⟨by first | omega | exact Nat.le_refl _⟩, ⟨by (with_reducible repeat (first | refine blk_drewN ?_ _ | refine blk_drew ?_ | refine blk_alloc ?_ _)); exact BK232.out⟩, ⟨by repeat (first | (with_reducible first | exact HB.out | apply below_alloc | apply pw_below_drewN | apply below_drew1 | refine below_set ?_ GE232.out) | exact HB.out)⟩⟩
       ·rw [if_neg c72] at H
        have c72b0 : (a0 == 7) = false := beq_eq_false_iff_ne.mpr c72
        have c72b1 : (a0 != 7) = true := bne_iff_ne.mpr c72
        (first | rw [c72b0] | (simp only [i64_w, i32_w]; rw [c72b0]) | skip)
        have H' := Aside0.mk H
        clear H
        go_wp2
        go_meet
        case rel => exact ⟨_, ((a0 == 8)), (by first | rfl | (simp; done) | (simp [*]; done)), H', ⟨by first | omega | exact Nat.le_refl _⟩, ⟨by (with_reducible repeat (first | refine blk_drewN ?_ _ | refine blk_drew ?_ | refine blk_alloc ?_ _)); exact BK232.out⟩, ⟨by repeat (first | (with_reducible first | exact HB.out | apply below_alloc | apply pw_below_drewN | apply below_drew1 | refine below_set ?_ GE232.out) | exact HB.out)⟩⟩
      case rest =>
       clear HC69
       try clear c1
       try clear c2
       try clear p2
       try clear c3
       try clear c4
       try clear c4b0
       try clear c4b1
       try clear c5
       try clear c5b0
       try clear c5b1
       try clear c6
       try clear c7
       try clear c10
       try clear c10b0
       try clear c10b1
       try clear c13
       try clear c13b0
       try clear c13b1
       try clear c14
       try clear c14b0
       try clear c14b1
       try clear c15
       try clear c15b0
       try clear c15b1
       try clear c22
       try clear c22b0
       try clear c22b1
       try clear c23
       try clear c23b0
       try clear c23b1
       try clear c24
       try clear c24b0
       try clear c24b1
       try clear c27
       try clear c27b0
       try clear c27b1
       try clear c29
       try clear c32
       try clear c32b0
       try clear c32b1
       try clear c35
       try clear c35b0
       try clear c35b1
       try clear c40
       try clear c40b0
       try clear c40b1
       try clear c45
       try clear c45b0
       try clear c45b1
       try clear c47
       try clear c50
       try clear c50b0
       try clear c50b1
       try clear c53
       try clear c53b0
       try clear c53b1
       try clear c58
       try clear c58b0
       try clear c58b1
       try clear c59
       try clear c63
       try clear c63b0
       try clear c63b1
       try clear c64
       try clear c64b0
       try clear c64b1
       try clear c72
       try clear c72b0
       try clear c72b1
       try clear hcz12_0
       try clear hcz12_1
       try clear hcz12_2
       try clear hcz12_3
       try clear hcz12_4
       try clear hcz17_0
       try clear hcz17_1
       try clear hcz17_2
       try clear hcz17_3
       try clear hcz17_4
       try clear hcz19_0
       try clear hcz19_1
       try clear hcz19_2
       try clear hcz19_3
       try clear hcz19_4
       try clear hcz21_0
       try clear hcz21_1
       try clear hcz21_2
       try clear hcz21_3
       try clear hcz21_4
       try clear hcz26_0
       try clear hcz26_1
       try clear hcz26_2
       try clear hcz26_3
       try clear hcz26_4
       try clear hcz31_0
       try clear hcz31_1
       try clear hcz31_2
       try clear hcz31_3
       try clear hcz31_4
       try clear hcz34_0
       try clear hcz34_1
       try clear hcz34_2
       try clear hcz34_3
       try clear hcz34_4
       try clear hcz37_0
       try clear hcz37_1
       try clear hcz37_2
       try clear hcz37_3
       try clear hcz37_4
       try clear hcz39_0
       try clear hcz39_1
       try clear hcz39_2
       try clear hcz39_3
       try clear hcz39_4
       try clear hcz42_0
       try clear hcz42_1
       try clear hcz42_2
       try clear hcz42_3
       try clear hcz42_4
       try clear hcz44_0
       try clear hcz44_1
       try clear hcz44_2
       try clear hcz44_3
       try clear hcz44_4
       try clear hcz49_0
       try clear hcz49_1
       try clear hcz49_2
       try clear hcz49_3
       try clear hcz49_4
       try clear hcz52_0
       try clear hcz52_1
       try clear hcz52_2
       try clear hcz52_3
       try clear hcz52_4
       try clear hcz55_0
       try clear hcz55_1
       try clear hcz55_2
       try clear hcz55_3
       try clear hcz55_4
       try clear hcz57_0
       try clear hcz57_1
       try clear hcz57_2
       try clear hcz57_3
       try clear hcz57_4
       try clear hcz60_0
       try clear hcz60_1
       try clear hcz60_2
       try clear hcz60_3
       try clear hcz60_4
       try clear hcz62_0
       try clear hcz62_1
       try clear hcz62_2
       try clear hcz62_3
       try clear hcz62_4
       try clear hcz66_0
       try clear hcz66_1
       try clear hcz66_2
       try clear hcz66_3
       try clear hcz66_4
       try clear hcz68_0
       try clear hcz68_1
       try clear hcz68_2
       try clear hcz68_3
       try clear hcz68_4
       try clear hcz71_0
       try clear hcz71_1
       try clear hcz71_2
       try clear hcz71_3
       try clear hcz71_4
       try clear hcz7_0
       try clear hcz7_1
       try clear hcz7_2
       try clear hcz7_3
       try clear hcz7_4
       try clear hcz9_0
       try clear hcz9_1
       try clear hcz9_2
       try clear hcz9_3
       try clear hcz9_4
       try clear hfz12_0
       try clear hfz12_1
       try clear hfz12_2
       try clear hfz12_3
       try clear hfz12_4
       try clear hfz17_0
       try clear hfz17_1
       try clear hfz17_2
       try clear hfz17_3
       try clear hfz17_4
       try clear hfz19_0
       try clear hfz19_1
       try clear hfz19_2
       try clear hfz19_3
       try clear hfz19_4
       try clear hfz21_0
       try clear hfz21_1
       try clear hfz21_2
       try clear hfz21_3
       try clear hfz21_4
       try clear hfz26_0
       try clear hfz26_1
       try clear hfz26_2
       try clear hfz26_3
       try clear hfz26_4
       try clear hfz31_0
       try clear hfz31_1
       try clear hfz31_2
       try clear hfz31_3
       try clear hfz31_4
       try clear hfz34_0
       try clear hfz34_1
       try clear hfz34_2
       try clear hfz34_3
       try clear hfz34_4
       try clear hfz37_0
       try clear hfz37_1
       try clear hfz37_2
       try clear hfz37_3
       try clear hfz37_4
       try clear hfz39_0
       try clear hfz39_1
       try clear hfz39_2
       try clear hfz39_3
       try clear hfz39_4
       try clear hfz42_0
       try clear hfz42_1
       try clear hfz42_2
       try clear hfz42_3
       try clear hfz42_4
       try clear hfz44_0
       try clear hfz44_1
       try clear hfz44_2
       try clear hfz44_3
       try clear hfz44_4
       try clear hfz49_0
       try clear hfz49_1
       try clear hfz49_2
       try clear hfz49_3
       try clear hfz49_4
       try clear hfz52_0
       try clear hfz52_1
       try clear hfz52_2
       try clear hfz52_3
       try clear hfz52_4
       try clear hfz55_0
       try clear hfz55_1
       try clear hfz55_2
       try clear hfz55_3
       try clear hfz55_4
       try clear hfz57_0
       try clear hfz57_1
       try clear hfz57_2
       try clear hfz57_3
       try clear hfz57_4
       try clear hfz60_0
       try clear hfz60_1
       try clear hfz60_2
       try clear hfz60_3
       try clear hfz60_4
       try clear hfz62_0
       try clear hfz62_1
       try clear hfz62_2
       try clear hfz62_3
       try clear hfz62_4
       try clear hfz66_0
       try clear hfz66_1
       try clear hfz66_2
       try clear hfz66_3
       try clear hfz66_4
       try clear hfz68_0
       try clear hfz68_1
       try clear hfz68_2
       try clear hfz68_3
       try clear hfz68_4
       try clear hfz71_0
       try clear hfz71_1
       try clear hfz71_2
       try clear hfz71_3
       try clear hfz71_4
       try clear hfz7_0
       try clear hfz7_1
       try clear hfz7_2
       try clear hfz7_3
       try clear hfz7_4
       try clear hfz9_0
       try clear hfz9_1
       try clear hfz9_2
       try clear hfz9_3
       try clear hfz9_4
       obtain ⟨kq, x73_68, rfl, HA, HJ68, BK232, HB⟩ := hcut
       cases kq with
       | zero => exact absurd HA.out (by simp [assessorref03_kid.j0])
       | succ kj68 =>
        have H := HA.out
        clear HA
        simp only [assessorref03_kid.j0] at H
        by_cases c73 : x73_68 = true
        ·subst c73
         have H1 : ((assessorref03_Type.f a2_0).bind fun t235 => (if t235 = true then (some true) else (some (a2_0 == 0)))) = some r := by rw [if_pos rfl] at H; exact H
         clear H
         have H := H1
         clear H1
         replace H := Option.bind_eq_some_iff.mp H
         obtain ⟨t235, A740, H⟩ := H
         replace H : (if t235 = true then (some true) else (some (a2_0 == 0))) = some r := H
         have A74 := Aside0.mk A740
         clear A740
         by_cases c75 : t235 = true
         ·subst c75
          have H1 : (some true) = some r := by rw [if_pos rfl] at H; exact H
          clear H
          have H := H1
          clear H1
          obtain rfl := Option.some.inj H
          go_wp2_with (first | ((with_reducible refine gate_callee (f := 76) rfl ?_); refine goesL_ (some 77) rfl rfl Try.func76 (by kernel_rfl) rfl #[.int .i64 a2_0] rfl (by (try simp only [List.map_toArray, List.map_cons, List.map_nil]); first | done | rfl | (simp only [List.length_drop, List.length_take]; rfl)) ?_; (with_reducible refine (assessorref03_Type.calls a2_0 true _ A74.out).mono ?_); rintro e w' ⟨rfl, ⟨nd, rfl⟩⟩; refine ⟨_, rfl, ?_⟩))
          go_ret
          exact ⟨by first | rfl | (simp [errW_none, errW_some] <;> rfl) | (simp [*, errW_none, errW_some] <;> rfl) | (simp [IntKind.wrap_i64, wrap64]; done), by repeat (first | (with_reducible first | exact HB.out | apply below_alloc | apply pw_below_drewN | apply below_drew1 | refine below_set ?_ GE232.out) | exact HB.out)⟩
         ·replace c75 := Bool.eq_false_iff.mpr c75
          subst c75
          have H1 : (some (a2_0 == 0)) = some r := by rw [if_neg (show ¬ (false = true) by decide)] at H; exact H
          clear H
          have H := H1
          clear H1
          obtain rfl := Option.some.inj H
          go_wp2_with (first | ((with_reducible refine gate_callee (f := 76) rfl ?_); refine goesL_ (some 77) rfl rfl Try.func76 (by kernel_rfl) rfl #[.int .i64 a2_0] rfl (by (try simp only [List.map_toArray, List.map_cons, List.map_nil]); first | done | rfl | (simp only [List.length_drop, List.length_take]; rfl)) ?_; (with_reducible refine (assessorref03_Type.calls a2_0 false _ A74.out).mono ?_); rintro e w' ⟨rfl, ⟨nd, rfl⟩⟩; refine ⟨_, rfl, ?_⟩))
          go_ret
          exact ⟨by first | rfl | (simp [errW_none, errW_some] <;> rfl) | (simp [*, errW_none, errW_some] <;> rfl) | (simp [IntKind.wrap_i64, wrap64]; done), by repeat (first | (with_reducible first | exact HB.out | apply below_alloc | apply pw_below_drewN | apply below_drew1 | refine below_set ?_ GE232.out) | exact HB.out)⟩
        ·replace c73 := Bool.eq_false_iff.mpr c73
         subst c73
         have H1 : (if a0 = 11 then ((assessorref03_IsStatement.f a2_0).bind fun t236 => (some t236)) else (if a0 = 12 then (if a1 = 0 then ((assessorref03_Type.f a2_0).bind fun t237 => (if t237 = true then (some true) else (if a2_0 = 0 then (some true) else (if a1 = 1 then ((assessorref03_IsExpression.f a2_0).bind fun t238 => (some t238)) else (some false))))) else (if a1 = 1 then ((assessorref03_IsExpression.f a2_0).bind fun t239 => (some t239)) else (some false))) else (if a0 = 13 then (if a1 = 0 then ((assessorref03_Place.f a2_0).bind fun t240 => (if t240 = true then (some true) else (if a1 = 1 then ((assessorref03_IsExpression.f a2_0).bind fun t241 => (some t241)) else (some false)))) else (if a1 = 1 then ((assessorref03_IsExpression.f a2_0).bind fun t242 => (some t242)) else (some false))) else (if a0 = 14 then (if a1 = 0 then ((assessorref03_IsExpression.f a2_0).bind fun t243 => (if t243 = true then (some true) else (if a1 = 1 then (if a2_0 = 11 then (some true) else (if a1 = 2 then (if a2_0 = 14 then (some true) else (some (a2_0 == 0))) else (some false))) else (if a1 = 2 then (if a2_0 = 11 then (some true) else (if a2_0 = 14 then (some true) else (some (a2_0 == 0)))) else (some false))))) else (if a1 = 1 then (if a2_0 = 11 then (some true) else (if a1 = 2 then (if a2_0 = 14 then (some true) else (some (a2_0 == 0))) else (some false))) else (if a1 = 2 then (if a2_0 = 11 then (some true) else (if a2_0 = 14 then (some true) else (some (a2_0 == 0)))) else (some false)))) else (if a0 = 15 then (if a1 = 0 then ((assessorref03_IsExpression.f a2_0).bind fun t244 => (if t244 = true then (some true) else (if a1 = 1 then (some (a2_0 == 11)) else (some false)))) else (if a1 = 1 then (some (a2_0 == 11)) else (some false))) else (if a0 = 16 then (if a1 < 2 then ((assessorref03_IsExpression.f a2_0).bind fun t245 => (if t245 = true then (some true) else (if a1 = 2 then (some (a2_0 == 11)) else (some false)))) else (if a1 = 2 then (some (a2_0 == 11)) else (some false))) else (if a0 = 17 then ((assessorref03_IsExpression.f a2_0).bind fun t246 => (if t246 = true then (some true) else (some (a2_0 == 0)))) else (if a0 = 21 then (if a1 = 0 then (if a2_0 = 20 then (some true) else (if a1 = 1 then ((assessorref03_IsExpression.f a2_0).bind fun t247 => (some t247)) else (some false))) else (if a1 = 1 then ((assessorref03_IsExpression.f a2_0).bind fun t248 => (some t248)) else (some false))) else (if a0 = 22 then (some (a2_0 == 20)) else (if a0 = 23 then (some (a2_0 == 20)) else ((assessorref03_IsExpression.f a2_0).bind fun t249 => (some t249)))))))))))) = some r := by rw [if_neg (show ¬ (false = true) by decide)] at H; exact H
         clear H
         have H := H1
         clear H1
         by_cases c76 : a0 = 11
         ·rw [if_pos c76] at H
          have c76b0 : (a0 == 11) = true := beq_iff_eq.mpr c76
          have c76b1 : (a0 != 11) = false := bne_eq_false_iff_eq.mpr c76
          clear c76
          replace H := Option.bind_eq_some_iff.mp H
          obtain ⟨t236, A770, H⟩ := H
          replace H : (some t236) = some r := H
          have A77 := Aside0.mk A770
          clear A770
          obtain rfl := Option.some.inj H
          go_wp2_with (first | ((with_reducible refine gate_callee (f := 47) rfl ?_); refine goesL_ (some 85) rfl rfl Try.func47 (by kernel_rfl) rfl #[.int .i64 a2_0] rfl (by (try simp only [List.map_toArray, List.map_cons, List.map_nil]); first | done | rfl | (simp only [List.length_drop, List.length_take]; rfl)) ?_; (with_reducible refine (assessorref03_IsStatement.calls a2_0 t236 _ A77.out).mono ?_); rintro e w' ⟨rfl, ⟨nd, rfl⟩⟩; refine ⟨_, rfl, ?_⟩))
          go_ret
          exact ⟨by first | rfl | (simp [errW_none, errW_some] <;> rfl) | (simp [*, errW_none, errW_some] <;> rfl) | (simp [IntKind.wrap_i64, wrap64]; done), by repeat (first | (with_reducible first | exact HB.out | apply below_alloc | apply pw_below_drewN | apply below_drew1 | refine below_set ?_ GE232.out) | exact HB.out)⟩
         ·rw [if_neg c76] at H
          have c76b0 : (a0 == 11) = false := beq_eq_false_iff_ne.mpr c76
          have c76b1 : (a0 != 11) = true := bne_iff_ne.mpr c76
          by_cases c78 : a0 = 12
          ·rw [if_pos c78] at H
           have c78b0 : (a0 == 12) = true := beq_iff_eq.mpr c78
           have c78b1 : (a0 != 12) = false := bne_eq_false_iff_eq.mpr c78
           clear c78
           by_cases c79 : a1 = 0
           ·rw [if_pos c79] at H
            have c79b0 : (a1 == 0) = true := beq_iff_eq.mpr c79
            have c79b1 : (a1 != 0) = false := bne_eq_false_iff_eq.mpr c79
            clear c79
            replace H := Option.bind_eq_some_iff.mp H
            obtain ⟨t237, A800, H⟩ := H
            replace H : (if t237 = true then (some true) else (if a2_0 = 0 then (some true) else (if a1 = 1 then ((assessorref03_IsExpression.f a2_0).bind fun t238 => (some t238)) else (some false)))) = some r := H
            have A80 := Aside0.mk A800
            clear A800
            by_cases c81 : t237 = true
            ·subst c81
             have H1 : (some true) = some r := by rw [if_pos rfl] at H; exact H
             clear H
             have H := H1
             clear H1
             obtain rfl := Option.some.inj H
             go_wp2_with (first | (go_at_call 76; (with_reducible refine (assessorref03_Type.calls a2_0 true _ A80.out).mono ?_); rintro e w' ⟨rfl, ⟨nd, rfl⟩⟩))
             go_ret
             exact ⟨by first | rfl | (simp [errW_none, errW_some] <;> rfl) | (simp [*, errW_none, errW_some] <;> rfl) | (simp [IntKind.wrap_i64, wrap64]; done), by repeat (first | (with_reducible first | exact HB.out | apply below_alloc | apply pw_below_drewN | apply below_drew1 | refine below_set ?_ GE232.out) | exact HB.out)⟩
            ·replace c81 := Bool.eq_false_iff.mpr c81
             subst c81
             have H1 : (if a2_0 = 0 then (some true) else (if a1 = 1 then ((assessorref03_IsExpression.f a2_0).bind fun t238 => (some t238)) else (some false))) = some r := by rw [if_neg (show ¬ (false = true) by decide)] at H; exact H
             clear H
             have H := H1
             clear H1
             by_cases c82 : a2_0 = 0
             ·rw [if_pos c82] at H
              have c82b0 : (a2_0 == 0) = true := beq_iff_eq.mpr c82
              have c82b1 : (a2_0 != 0) = false := bne_eq_false_iff_eq.mpr c82
              clear c82
              obtain rfl := Option.some.inj H
              go_wp2_with (first | (go_at_call 76; (with_reducible refine (assessorref03_Type.calls a2_0 false _ A80.out).mono ?_); rintro e w' ⟨rfl, ⟨nd, rfl⟩⟩))
              go_ret
              exact ⟨by first | rfl | (simp [errW_none, errW_some] <;> rfl) | (simp [*, errW_none, errW_some] <;> rfl) | (simp [IntKind.wrap_i64, wrap64]; done), by repeat (first | (with_reducible first | exact HB.out | apply below_alloc | apply pw_below_drewN | apply below_drew1 | refine below_set ?_ GE232.out) | exact HB.out)⟩
             ·rw [if_neg c82] at H
              have c82b0 : (a2_0 == 0) = false := beq_eq_false_iff_ne.mpr c82
              have c82b1 : (a2_0 != 0) = true := bne_iff_ne.mpr c82
              by_cases c83 : a1 = 1
              ·rw [if_pos c83] at H
               have c83b0 : (a1 == 1) = true := beq_iff_eq.mpr c83
               have c83b1 : (a1 != 1) = false := bne_eq_false_iff_eq.mpr c83
               clear c83
               replace H := Option.bind_eq_some_iff.mp H
               obtain ⟨t238, A840, H⟩ := H
               replace H : (some t238) = some r := H
               have A84 := Aside0.mk A840
               clear A840
               obtain rfl := Option.some.inj H
               go_wp2_with (first | (go_at_call 76; (with_reducible refine (assessorref03_Type.calls a2_0 false _ A80.out).mono ?_); rintro e w' ⟨rfl, ⟨nd, rfl⟩⟩) | (go_at_call 45; (with_reducible refine (assessorref03_IsExpression.calls a2_0 t238 _ A84.out).mono ?_); rintro e w' ⟨rfl, ⟨nd, rfl⟩⟩))
               go_ret
               exact ⟨by first | rfl | (simp [errW_none, errW_some] <;> rfl) | (simp [*, errW_none, errW_some] <;> rfl) | (simp [IntKind.wrap_i64, wrap64]; done), by repeat (first | (with_reducible first | exact HB.out | apply below_alloc | apply pw_below_drewN | apply below_drew1 | refine below_set ?_ GE232.out) | exact HB.out)⟩
              ·rw [if_neg c83] at H
               have c83b0 : (a1 == 1) = false := beq_eq_false_iff_ne.mpr c83
               have c83b1 : (a1 != 1) = true := bne_iff_ne.mpr c83
               obtain rfl := Option.some.inj H
               go_wp2_with (first | (go_at_call 76; (with_reducible refine (assessorref03_Type.calls a2_0 false _ A80.out).mono ?_); rintro e w' ⟨rfl, ⟨nd, rfl⟩⟩))
               go_ret
               exact ⟨by first | rfl | (simp [errW_none, errW_some] <;> rfl) | (simp [*, errW_none, errW_some] <;> rfl) | (simp [IntKind.wrap_i64, wrap64]; done), by repeat (first | (with_reducible first | exact HB.out | apply below_alloc | apply pw_below_drewN | apply below_drew1 | refine below_set ?_ GE232.out) | exact HB.out)⟩
           ·rw [if_neg c79] at H
            have c79b0 : (a1 == 0) = false := beq_eq_false_iff_ne.mpr c79
            have c79b1 : (a1 != 0) = true := bne_iff_ne.mpr c79
            by_cases c85 : a1 = 1
            ·rw [if_pos c85] at H
             have c85b0 : (a1 == 1) = true := beq_iff_eq.mpr c85
             have c85b1 : (a1 != 1) = false := bne_eq_false_iff_eq.mpr c85
             clear c85
             replace H := Option.bind_eq_some_iff.mp H
             obtain ⟨t239, A860, H⟩ := H
             replace H : (some t239) = some r := H
             have A86 := Aside0.mk A860
             clear A860
             obtain rfl := Option.some.inj H
             go_wp2_with (first | (go_at_call 45; (with_reducible refine (assessorref03_IsExpression.calls a2_0 t239 _ A86.out).mono ?_); rintro e w' ⟨rfl, ⟨nd, rfl⟩⟩))
             go_ret
             exact ⟨by first | rfl | (simp [errW_none, errW_some] <;> rfl) | (simp [*, errW_none, errW_some] <;> rfl) | (simp [IntKind.wrap_i64, wrap64]; done), by repeat (first | (with_reducible first | exact HB.out | apply below_alloc | apply pw_below_drewN | apply below_drew1 | refine below_set ?_ GE232.out) | exact HB.out)⟩
            ·rw [if_neg c85] at H
             have c85b0 : (a1 == 1) = false := beq_eq_false_iff_ne.mpr c85
             have c85b1 : (a1 != 1) = true := bne_iff_ne.mpr c85
             obtain rfl := Option.some.inj H
             go_wp2
             go_ret
             exact ⟨by first | rfl | (simp [errW_none, errW_some] <;> rfl) | (simp [*, errW_none, errW_some] <;> rfl) | (simp [IntKind.wrap_i64, wrap64]; done), by repeat (first | (with_reducible first | exact HB.out | apply below_alloc | apply pw_below_drewN | apply below_drew1 | refine below_set ?_ GE232.out) | exact HB.out)⟩
          ·rw [if_neg c78] at H
           have c78b0 : (a0 == 12) = false := beq_eq_false_iff_ne.mpr c78
           have c78b1 : (a0 != 12) = true := bne_iff_ne.mpr c78
           by_cases c87 : a0 = 13
           ·rw [if_pos c87] at H
            have c87b0 : (a0 == 13) = true := beq_iff_eq.mpr c87
            have c87b1 : (a0 != 13) = false := bne_eq_false_iff_eq.mpr c87
            clear c87
            by_cases c88 : a1 = 0
            ·rw [if_pos c88] at H
             have c88b0 : (a1 == 0) = true := beq_iff_eq.mpr c88
             have c88b1 : (a1 != 0) = false := bne_eq_false_iff_eq.mpr c88
             clear c88
             replace H := Option.bind_eq_some_iff.mp H
             obtain ⟨t240, A890, H⟩ := H
             replace H : (if t240 = true then (some true) else (if a1 = 1 then ((assessorref03_IsExpression.f a2_0).bind fun t241 => (some t241)) else (some false))) = some r := H
             have A89 := Aside0.mk A890
             clear A890
             by_cases c90 : t240 = true
             ·subst c90
              have H1 : (some true) = some r := by rw [if_pos rfl] at H; exact H
              clear H
              have H := H1
              clear H1
              obtain rfl := Option.some.inj H
              go_wp2_with (first | (go_at_call 77; (with_reducible refine (assessorref03_Place.calls a2_0 true _ A89.out).mono ?_); rintro e w' ⟨rfl, ⟨nd, rfl⟩⟩))
              go_ret
              exact ⟨by first | rfl | (simp [errW_none, errW_some] <;> rfl) | (simp [*, errW_none, errW_some] <;> rfl) | (simp [IntKind.wrap_i64, wrap64]; done), by repeat (first | (with_reducible first | exact HB.out | apply below_alloc | apply pw_below_drewN | apply below_drew1 | refine below_set ?_ GE232.out) | exact HB.out)⟩
             ·replace c90 := Bool.eq_false_iff.mpr c90
              subst c90
              have H1 : (if a1 = 1 then ((assessorref03_IsExpression.f a2_0).bind fun t241 => (some t241)) else (some false)) = some r := by rw [if_neg (show ¬ (false = true) by decide)] at H; exact H
              clear H
              have H := H1
              clear H1
              by_cases c91 : a1 = 1
              ·rw [if_pos c91] at H
               have c91b0 : (a1 == 1) = true := beq_iff_eq.mpr c91
               have c91b1 : (a1 != 1) = false := bne_eq_false_iff_eq.mpr c91
               clear c91
               replace H := Option.bind_eq_some_iff.mp H
               obtain ⟨t241, A920, H⟩ := H
               replace H : (some t241) = some r := H
               have A92 := Aside0.mk A920
               clear A920
               obtain rfl := Option.some.inj H
               go_wp2_with (first | (go_at_call 77; (with_reducible refine (assessorref03_Place.calls a2_0 false _ A89.out).mono ?_); rintro e w' ⟨rfl, ⟨nd, rfl⟩⟩) | (go_at_call 45; (with_reducible refine (assessorref03_IsExpression.calls a2_0 t241 _ A92.out).mono ?_); rintro e w' ⟨rfl, ⟨nd, rfl⟩⟩))
               go_ret
               exact ⟨by first | rfl | (simp [errW_none, errW_some] <;> rfl) | (simp [*, errW_none, errW_some] <;> rfl) | (simp [IntKind.wrap_i64, wrap64]; done), by repeat (first | (with_reducible first | exact HB.out | apply below_alloc | apply pw_below_drewN | apply below_drew1 | refine below_set ?_ GE232.out) | exact HB.out)⟩
              ·rw [if_neg c91] at H
               have c91b0 : (a1 == 1) = false := beq_eq_false_iff_ne.mpr c91
               have c91b1 : (a1 != 1) = true := bne_iff_ne.mpr c91
               obtain rfl := Option.some.inj H
               go_wp2_with (first | (go_at_call 77; (with_reducible refine (assessorref03_Place.calls a2_0 false _ A89.out).mono ?_); rintro e w' ⟨rfl, ⟨nd, rfl⟩⟩))
               go_ret
               exact ⟨by first | rfl | (simp [errW_none, errW_some] <;> rfl) | (simp [*, errW_none, errW_some] <;> rfl) | (simp [IntKind.wrap_i64, wrap64]; done), by repeat (first | (with_reducible first | exact HB.out | apply below_alloc | apply pw_below_drewN | apply below_drew1 | refine below_set ?_ GE232.out) | exact HB.out)⟩
            ·rw [if_neg c88] at H
             have c88b0 : (a1 == 0) = false := beq_eq_false_iff_ne.mpr c88
             have c88b1 : (a1 != 0) = true := bne_iff_ne.mpr c88
             by_cases c93 : a1 = 1
             ·rw [if_pos c93] at H
              have c93b0 : (a1 == 1) = true := beq_iff_eq.mpr c93
              have c93b1 : (a1 != 1) = false := bne_eq_false_iff_eq.mpr c93
              clear c93
              replace H := Option.bind_eq_some_iff.mp H
              obtain ⟨t242, A940, H⟩ := H
              replace H : (some t242) = some r := H
              have A94 := Aside0.mk A940
              clear A940
              obtain rfl := Option.some.inj H
              go_wp2_with (first | (go_at_call 45; (with_reducible refine (assessorref03_IsExpression.calls a2_0 t242 _ A94.out).mono ?_); rintro e w' ⟨rfl, ⟨nd, rfl⟩⟩))
              go_ret
              exact ⟨by first | rfl | (simp [errW_none, errW_some] <;> rfl) | (simp [*, errW_none, errW_some] <;> rfl) | (simp [IntKind.wrap_i64, wrap64]; done), by repeat (first | (with_reducible first | exact HB.out | apply below_alloc | apply pw_below_drewN | apply below_drew1 | refine below_set ?_ GE232.out) | exact HB.out)⟩
             ·rw [if_neg c93] at H
              have c93b0 : (a1 == 1) = false := beq_eq_false_iff_ne.mpr c93
              have c93b1 : (a1 != 1) = true := bne_iff_ne.mpr c93
              obtain rfl := Option.some.inj H
              go_wp2
              go_ret
              exact ⟨by first | rfl | (simp [errW_none, errW_some] <;> rfl) | (simp [*, errW_none, errW_some] <;> rfl) | (simp [IntKind.wrap_i64, wrap64]; done), by repeat (first | (with_reducible first | exact HB.out | apply below_alloc | apply pw_below_drewN | apply below_drew1 | refine below_set ?_ GE232.out) | exact HB.out)⟩
           ·rw [if_neg c87] at H
            have c87b0 : (a0 == 13) = false := beq_eq_false_iff_ne.mpr c87
            have c87b1 : (a0 != 13) = true := bne_iff_ne.mpr c87
            by_cases c95 : a0 = 14
            ·rw [if_pos c95] at H
             have c95b0 : (a0 == 14) = true := beq_iff_eq.mpr c95
             have c95b1 : (a0 != 14) = false := bne_eq_false_iff_eq.mpr c95
             clear c95
             by_cases c96 : a1 = 0
             ·rw [if_pos c96] at H
              have c96b0 : (a1 == 0) = true := beq_iff_eq.mpr c96
              have c96b1 : (a1 != 0) = false := bne_eq_false_iff_eq.mpr c96
              clear c96
              replace H := Option.bind_eq_some_iff.mp H
              obtain ⟨t243, A970, H⟩ := H
              replace H : (if t243 = true then (some true) else (if a1 = 1 then (if a2_0 = 11 then (some true) else (if a1 = 2 then (if a2_0 = 14 then (some true) else (some (a2_0 == 0))) else (some false))) else (if a1 = 2 then (if a2_0 = 11 then (some true) else (if a2_0 = 14 then (some true) else (some (a2_0 == 0)))) else (some false)))) = some r := H
              have A97 := Aside0.mk A970
              clear A970
              by_cases c98 : t243 = true
              ·subst c98
               have H1 : (some true) = some r := by rw [if_pos rfl] at H; exact H
               clear H
               have H := H1
               clear H1
               obtain rfl := Option.some.inj H
               go_wp2_with (first | (go_at_call 45; (with_reducible refine (assessorref03_IsExpression.calls a2_0 true _ A97.out).mono ?_); rintro e w' ⟨rfl, ⟨nd, rfl⟩⟩))
               go_ret
               exact ⟨by first | rfl | (simp [errW_none, errW_some] <;> rfl) | (simp [*, errW_none, errW_some] <;> rfl) | (simp [IntKind.wrap_i64, wrap64]; done), by repeat (first | (with_reducible first | exact HB.out | apply below_alloc | apply pw_below_drewN | apply below_drew1 | refine below_set ?_ GE232.out) | exact HB.out)⟩
              ·replace c98 := Bool.eq_false_iff.mpr c98
               subst c98
               have H1 : (if a1 = 1 then (if a2_0 = 11 then (some true) else (if a1 = 2 then (if a2_0 = 14 then (some true) else (some (a2_0 == 0))) else (some false))) else (if a1 = 2 then (if a2_0 = 11 then (some true) else (if a2_0 = 14 then (some true) else (some (a2_0 == 0)))) else (some false))) = some r := by rw [if_neg (show ¬ (false = true) by decide)] at H; exact H
               clear H
               have H := H1
               clear H1
               by_cases c99 : a1 = 1
               ·rw [if_pos c99] at H
                have c99b0 : (a1 == 1) = true := beq_iff_eq.mpr c99
                have c99b1 : (a1 != 1) = false := bne_eq_false_iff_eq.mpr c99
                clear c99
                by_cases c100 : a2_0 = 11
                ·rw [if_pos c100] at H
                 have c100b0 : (a2_0 == 11) = true := beq_iff_eq.mpr c100
                 have c100b1 : (a2_0 != 11) = false := bne_eq_false_iff_eq.mpr c100
                 clear c100
                 obtain rfl := Option.some.inj H
                 go_wp2_with (first | (go_at_call 45; (with_reducible refine (assessorref03_IsExpression.calls a2_0 false _ A97.out).mono ?_); rintro e w' ⟨rfl, ⟨nd, rfl⟩⟩))
                 go_ret
                 exact ⟨by first | rfl | (simp [errW_none, errW_some] <;> rfl) | (simp [*, errW_none, errW_some] <;> rfl) | (simp [IntKind.wrap_i64, wrap64]; done), by repeat (first | (with_reducible first | exact HB.out | apply below_alloc | apply pw_below_drewN | apply below_drew1 | refine below_set ?_ GE232.out) | exact HB.out)⟩
                ·rw [if_neg c100] at H
                 have c100b0 : (a2_0 == 11) = false := beq_eq_false_iff_ne.mpr c100
                 have c100b1 : (a2_0 != 11) = true := bne_iff_ne.mpr c100
                 by_cases c101 : a1 = 2
                 ·rw [if_pos c101] at H
                  have c101b0 : (a1 == 2) = true := beq_iff_eq.mpr c101
                  have c101b1 : (a1 != 2) = false := bne_eq_false_iff_eq.mpr c101
                  clear c101
                  by_cases c102 : a2_0 = 14
                  ·rw [if_pos c102] at H
                   have c102b0 : (a2_0 == 14) = true := beq_iff_eq.mpr c102
                   have c102b1 : (a2_0 != 14) = false := bne_eq_false_iff_eq.mpr c102
                   clear c102
                   obtain rfl := Option.some.inj H
                   go_wp2_with (first | (go_at_call 45; (with_reducible refine (assessorref03_IsExpression.calls a2_0 false _ A97.out).mono ?_); rintro e w' ⟨rfl, ⟨nd, rfl⟩⟩))
                   go_ret
                   exact ⟨by first | rfl | (simp [errW_none, errW_some] <;> rfl) | (simp [*, errW_none, errW_some] <;> rfl) | (simp [IntKind.wrap_i64, wrap64]; done), by repeat (first | (with_reducible first | exact HB.out | apply below_alloc | apply pw_below_drewN | apply below_drew1 | refine below_set ?_ GE232.out) | exact HB.out)⟩
                  ·rw [if_neg c102] at H
                   have c102b0 : (a2_0 == 14) = false := beq_eq_false_iff_ne.mpr c102
                   have c102b1 : (a2_0 != 14) = true := bne_iff_ne.mpr c102
                   obtain rfl := Option.some.inj H
                   go_wp2_with (first | (go_at_call 45; (with_reducible refine (assessorref03_IsExpression.calls a2_0 false _ A97.out).mono ?_); rintro e w' ⟨rfl, ⟨nd, rfl⟩⟩))
                   go_ret
                   exact ⟨by first | rfl | (simp [errW_none, errW_some] <;> rfl) | (simp [*, errW_none, errW_some] <;> rfl) | (simp [IntKind.wrap_i64, wrap64]; done), by repeat (first | (with_reducible first | exact HB.out | apply below_alloc | apply pw_below_drewN | apply below_drew1 | refine below_set ?_ GE232.out) | exact HB.out)⟩
                 ·rw [if_neg c101] at H
                  have c101b0 : (a1 == 2) = false := beq_eq_false_iff_ne.mpr c101
                  have c101b1 : (a1 != 2) = true := bne_iff_ne.mpr c101
                  obtain rfl := Option.some.inj H
                  go_wp2_with (first | (go_at_call 45; (with_reducible refine (assessorref03_IsExpression.calls a2_0 false _ A97.out).mono ?_); rintro e w' ⟨rfl, ⟨nd, rfl⟩⟩))
                  go_ret
                  exact ⟨by first | rfl | (simp [errW_none, errW_some] <;> rfl) | (simp [*, errW_none, errW_some] <;> rfl) | (simp [IntKind.wrap_i64, wrap64]; done), by repeat (first | (with_reducible first | exact HB.out | apply below_alloc | apply pw_below_drewN | apply below_drew1 | refine below_set ?_ GE232.out) | exact HB.out)⟩
               ·rw [if_neg c99] at H
                have c99b0 : (a1 == 1) = false := beq_eq_false_iff_ne.mpr c99
                have c99b1 : (a1 != 1) = true := bne_iff_ne.mpr c99
                by_cases c103 : a1 = 2
                ·rw [if_pos c103] at H
                 have c103b0 : (a1 == 2) = true := beq_iff_eq.mpr c103
                 have c103b1 : (a1 != 2) = false := bne_eq_false_iff_eq.mpr c103
                 clear c103
                 by_cases c104 : a2_0 = 11
                 ·rw [if_pos c104] at H
                  have c104b0 : (a2_0 == 11) = true := beq_iff_eq.mpr c104
                  have c104b1 : (a2_0 != 11) = false := bne_eq_false_iff_eq.mpr c104
                  clear c104
                  obtain rfl := Option.some.inj H
                  go_wp2_with (first | (go_at_call 45; (with_reducible refine (assessorref03_IsExpression.calls a2_0 false _ A97.out).mono ?_); rintro e w' ⟨rfl, ⟨nd, rfl⟩⟩))
                  go_ret
                  exact ⟨by first | rfl | (simp [errW_none, errW_some] <;> rfl) | (simp [*, errW_none, errW_some] <;> rfl) | (simp [IntKind.wrap_i64, wrap64]; done), by repeat (first | (with_reducible first | exact HB.out | apply below_alloc | apply pw_below_drewN | apply below_drew1 | refine below_set ?_ GE232.out) | exact HB.out)⟩
                 ·rw [if_neg c104] at H
                  have c104b0 : (a2_0 == 11) = false := beq_eq_false_iff_ne.mpr c104
                  have c104b1 : (a2_0 != 11) = true := bne_iff_ne.mpr c104
                  by_cases c105 : a2_0 = 14
                  ·rw [if_pos c105] at H
                   have c105b0 : (a2_0 == 14) = true := beq_iff_eq.mpr c105
                   have c105b1 : (a2_0 != 14) = false := bne_eq_false_iff_eq.mpr c105
                   clear c105
                   obtain rfl := Option.some.inj H
                   go_wp2_with (first | (go_at_call 45; (with_reducible refine (assessorref03_IsExpression.calls a2_0 false _ A97.out).mono ?_); rintro e w' ⟨rfl, ⟨nd, rfl⟩⟩))
                   go_ret
                   exact ⟨by first | rfl | (simp [errW_none, errW_some] <;> rfl) | (simp [*, errW_none, errW_some] <;> rfl) | (simp [IntKind.wrap_i64, wrap64]; done), by repeat (first | (with_reducible first | exact HB.out | apply below_alloc | apply pw_below_drewN | apply below_drew1 | refine below_set ?_ GE232.out) | exact HB.out)⟩
                  ·rw [if_neg c105] at H
                   have c105b0 : (a2_0 == 14) = false := beq_eq_false_iff_ne.mpr c105
                   have c105b1 : (a2_0 != 14) = true := bne_iff_ne.mpr c105
                   obtain rfl := Option.some.inj H
                   go_wp2_with (first | (go_at_call 45; (with_reducible refine (assessorref03_IsExpression.calls a2_0 false _ A97.out).mono ?_); rintro e w' ⟨rfl, ⟨nd, rfl⟩⟩))
                   go_ret
                   exact ⟨by first | rfl | (simp [errW_none, errW_some] <;> rfl) | (simp [*, errW_none, errW_some] <;> rfl) | (simp [IntKind.wrap_i64, wrap64]; done), by repeat (first | (with_reducible first | exact HB.out | apply below_alloc | apply pw_below_drewN | apply below_drew1 | refine below_set ?_ GE232.out) | exact HB.out)⟩
                ·rw [if_neg c103] at H
                 have c103b0 : (a1 == 2) = false := beq_eq_false_iff_ne.mpr c103
                 have c103b1 : (a1 != 2) = true := bne_iff_ne.mpr c103
                 obtain rfl := Option.some.inj H
                 go_wp2_with (first | (go_at_call 45; (with_reducible refine (assessorref03_IsExpression.calls a2_0 false _ A97.out).mono ?_); rintro e w' ⟨rfl, ⟨nd, rfl⟩⟩))
                 go_ret
                 exact ⟨by first | rfl | (simp [errW_none, errW_some] <;> rfl) | (simp [*, errW_none, errW_some] <;> rfl) | (simp [IntKind.wrap_i64, wrap64]; done), by repeat (first | (with_reducible first | exact HB.out | apply below_alloc | apply pw_below_drewN | apply below_drew1 | refine below_set ?_ GE232.out) | exact HB.out)⟩
             ·rw [if_neg c96] at H
              have c96b0 : (a1 == 0) = false := beq_eq_false_iff_ne.mpr c96
              have c96b1 : (a1 != 0) = true := bne_iff_ne.mpr c96
              by_cases c106 : a1 = 1
              ·rw [if_pos c106] at H
               have c106b0 : (a1 == 1) = true := beq_iff_eq.mpr c106
               have c106b1 : (a1 != 1) = false := bne_eq_false_iff_eq.mpr c106
               clear c106
               by_cases c107 : a2_0 = 11
               ·rw [if_pos c107] at H
                have c107b0 : (a2_0 == 11) = true := beq_iff_eq.mpr c107
                have c107b1 : (a2_0 != 11) = false := bne_eq_false_iff_eq.mpr c107
                clear c107
                obtain rfl := Option.some.inj H
                go_wp2
                go_ret
                exact ⟨by first | rfl | (simp [errW_none, errW_some] <;> rfl) | (simp [*, errW_none, errW_some] <;> rfl) | (simp [IntKind.wrap_i64, wrap64]; done), by repeat (first | (with_reducible first | exact HB.out | apply below_alloc | apply pw_below_drewN | apply below_drew1 | refine below_set ?_ GE232.out) | exact HB.out)⟩
               ·rw [if_neg c107] at H
                have c107b0 : (a2_0 == 11) = false := beq_eq_false_iff_ne.mpr c107
                have c107b1 : (a2_0 != 11) = true := bne_iff_ne.mpr c107
                by_cases c108 : a1 = 2
                ·rw [if_pos c108] at H
                 have c108b0 : (a1 == 2) = true := beq_iff_eq.mpr c108
                 have c108b1 : (a1 != 2) = false := bne_eq_false_iff_eq.mpr c108
                 clear c108
                 by_cases c109 : a2_0 = 14
                 ·rw [if_pos c109] at H
                  have c109b0 : (a2_0 == 14) = true := beq_iff_eq.mpr c109
                  have c109b1 : (a2_0 != 14) = false := bne_eq_false_iff_eq.mpr c109
                  clear c109
                  obtain rfl := Option.some.inj H
                  go_wp2
                  go_ret
                  exact ⟨by first | rfl | (simp [errW_none, errW_some] <;> rfl) | (simp [*, errW_none, errW_some] <;> rfl) | (simp [IntKind.wrap_i64, wrap64]; done), by repeat (first | (with_reducible first | exact HB.out | apply below_alloc | apply pw_below_drewN | apply below_drew1 | refine below_set ?_ GE232.out) | exact HB.out)⟩
                 ·rw [if_neg c109] at H
                  have c109b0 : (a2_0 == 14) = false := beq_eq_false_iff_ne.mpr c109
                  have c109b1 : (a2_0 != 14) = true := bne_iff_ne.mpr c109
                  obtain rfl := Option.some.inj H
                  go_wp2
                  go_ret
                  exact ⟨by first | rfl | (simp [errW_none, errW_some] <;> rfl) | (simp [*, errW_none, errW_some] <;> rfl) | (simp [IntKind.wrap_i64, wrap64]; done), by repeat (first | (with_reducible first | exact HB.out | apply below_alloc | apply pw_below_drewN | apply below_drew1 | refine below_set ?_ GE232.out) | exact HB.out)⟩
                ·rw [if_neg c108] at H
                 have c108b0 : (a1 == 2) = false := beq_eq_false_iff_ne.mpr c108
                 have c108b1 : (a1 != 2) = true := bne_iff_ne.mpr c108
                 obtain rfl := Option.some.inj H
                 go_wp2
                 go_ret
                 exact ⟨by first | rfl | (simp [errW_none, errW_some] <;> rfl) | (simp [*, errW_none, errW_some] <;> rfl) | (simp [IntKind.wrap_i64, wrap64]; done), by repeat (first | (with_reducible first | exact HB.out | apply below_alloc | apply pw_below_drewN | apply below_drew1 | refine below_set ?_ GE232.out) | exact HB.out)⟩
              ·rw [if_neg c106] at H
               have c106b0 : (a1 == 1) = false := beq_eq_false_iff_ne.mpr c106
               have c106b1 : (a1 != 1) = true := bne_iff_ne.mpr c106
               by_cases c110 : a1 = 2
               ·rw [if_pos c110] at H
                have c110b0 : (a1 == 2) = true := beq_iff_eq.mpr c110
                have c110b1 : (a1 != 2) = false := bne_eq_false_iff_eq.mpr c110
                clear c110
                by_cases c111 : a2_0 = 11
                ·rw [if_pos c111] at H
                 have c111b0 : (a2_0 == 11) = true := beq_iff_eq.mpr c111
                 have c111b1 : (a2_0 != 11) = false := bne_eq_false_iff_eq.mpr c111
                 clear c111
                 obtain rfl := Option.some.inj H
                 go_wp2
                 go_ret
                 exact ⟨by first | rfl | (simp [errW_none, errW_some] <;> rfl) | (simp [*, errW_none, errW_some] <;> rfl) | (simp [IntKind.wrap_i64, wrap64]; done), by repeat (first | (with_reducible first | exact HB.out | apply below_alloc | apply pw_below_drewN | apply below_drew1 | refine below_set ?_ GE232.out) | exact HB.out)⟩
                ·rw [if_neg c111] at H
                 have c111b0 : (a2_0 == 11) = false := beq_eq_false_iff_ne.mpr c111
                 have c111b1 : (a2_0 != 11) = true := bne_iff_ne.mpr c111
                 by_cases c112 : a2_0 = 14
                 ·rw [if_pos c112] at H
                  have c112b0 : (a2_0 == 14) = true := beq_iff_eq.mpr c112
                  have c112b1 : (a2_0 != 14) = false := bne_eq_false_iff_eq.mpr c112
                  clear c112
                  obtain rfl := Option.some.inj H
                  go_wp2
                  go_ret
                  exact ⟨by first | rfl | (simp [errW_none, errW_some] <;> rfl) | (simp [*, errW_none, errW_some] <;> rfl) | (simp [IntKind.wrap_i64, wrap64]; done), by repeat (first | (with_reducible first | exact HB.out | apply below_alloc | apply pw_below_drewN | apply below_drew1 | refine below_set ?_ GE232.out) | exact HB.out)⟩
                 ·rw [if_neg c112] at H
                  have c112b0 : (a2_0 == 14) = false := beq_eq_false_iff_ne.mpr c112
                  have c112b1 : (a2_0 != 14) = true := bne_iff_ne.mpr c112
                  obtain rfl := Option.some.inj H
                  go_wp2
                  go_ret
                  exact ⟨by first | rfl | (simp [errW_none, errW_some] <;> rfl) | (simp [*, errW_none, errW_some] <;> rfl) | (simp [IntKind.wrap_i64, wrap64]; done), by repeat (first | (with_reducible first | exact HB.out | apply below_alloc | apply pw_below_drewN | apply below_drew1 | refine below_set ?_ GE232.out) | exact HB.out)⟩
               ·rw [if_neg c110] at H
                have c110b0 : (a1 == 2) = false := beq_eq_false_iff_ne.mpr c110
                have c110b1 : (a1 != 2) = true := bne_iff_ne.mpr c110
                obtain rfl := Option.some.inj H
                go_wp2
                go_ret
                exact ⟨by first | rfl | (simp [errW_none, errW_some] <;> rfl) | (simp [*, errW_none, errW_some] <;> rfl) | (simp [IntKind.wrap_i64, wrap64]; done), by repeat (first | (with_reducible first | exact HB.out | apply below_alloc | apply pw_below_drewN | apply below_drew1 | refine below_set ?_ GE232.out) | exact HB.out)⟩
            ·rw [if_neg c95] at H
             have c95b0 : (a0 == 14) = false := beq_eq_false_iff_ne.mpr c95
             have c95b1 : (a0 != 14) = true := bne_iff_ne.mpr c95
             by_cases c113 : a0 = 15
             ·rw [if_pos c113] at H
              have c113b0 : (a0 == 15) = true := beq_iff_eq.mpr c113
              have c113b1 : (a0 != 15) = false := bne_eq_false_iff_eq.mpr c113
              clear c113
              by_cases c114 : a1 = 0
              ·rw [if_pos c114] at H
               have c114b0 : (a1 == 0) = true := beq_iff_eq.mpr c114
               have c114b1 : (a1 != 0) = false := bne_eq_false_iff_eq.mpr c114
               clear c114
               replace H := Option.bind_eq_some_iff.mp H
               obtain ⟨t244, A1150, H⟩ := H
               replace H : (if t244 = true then (some true) else (if a1 = 1 then (some (a2_0 == 11)) else (some false))) = some r := H
               have A115 := Aside0.mk A1150
               clear A1150
               by_cases c116 : t244 = true
               ·subst c116
                have H1 : (some true) = some r := by rw [if_pos rfl] at H; exact H
                clear H
                have H := H1
                clear H1
                obtain rfl := Option.some.inj H
                go_wp2_with (first | (go_at_call 45; (with_reducible refine (assessorref03_IsExpression.calls a2_0 true _ A115.out).mono ?_); rintro e w' ⟨rfl, ⟨nd, rfl⟩⟩))
                go_ret
                exact ⟨by first | rfl | (simp [errW_none, errW_some] <;> rfl) | (simp [*, errW_none, errW_some] <;> rfl) | (simp [IntKind.wrap_i64, wrap64]; done), by repeat (first | (with_reducible first | exact HB.out | apply below_alloc | apply pw_below_drewN | apply below_drew1 | refine below_set ?_ GE232.out) | exact HB.out)⟩
               ·replace c116 := Bool.eq_false_iff.mpr c116
                subst c116
                have H1 : (if a1 = 1 then (some (a2_0 == 11)) else (some false)) = some r := by rw [if_neg (show ¬ (false = true) by decide)] at H; exact H
                clear H
                have H := H1
                clear H1
                by_cases c117 : a1 = 1
                ·rw [if_pos c117] at H
                 have c117b0 : (a1 == 1) = true := beq_iff_eq.mpr c117
                 have c117b1 : (a1 != 1) = false := bne_eq_false_iff_eq.mpr c117
                 clear c117
                 obtain rfl := Option.some.inj H
                 go_wp2_with (first | (go_at_call 45; (with_reducible refine (assessorref03_IsExpression.calls a2_0 false _ A115.out).mono ?_); rintro e w' ⟨rfl, ⟨nd, rfl⟩⟩))
                 go_ret
                 exact ⟨by first | rfl | (simp [errW_none, errW_some] <;> rfl) | (simp [*, errW_none, errW_some] <;> rfl) | (simp [IntKind.wrap_i64, wrap64]; done), by repeat (first | (with_reducible first | exact HB.out | apply below_alloc | apply pw_below_drewN | apply below_drew1 | refine below_set ?_ GE232.out) | exact HB.out)⟩
                ·rw [if_neg c117] at H
                 have c117b0 : (a1 == 1) = false := beq_eq_false_iff_ne.mpr c117
                 have c117b1 : (a1 != 1) = true := bne_iff_ne.mpr c117
                 obtain rfl := Option.some.inj H
                 go_wp2_with (first | (go_at_call 45; (with_reducible refine (assessorref03_IsExpression.calls a2_0 false _ A115.out).mono ?_); rintro e w' ⟨rfl, ⟨nd, rfl⟩⟩))
                 go_ret
                 exact ⟨by first | rfl | (simp [errW_none, errW_some] <;> rfl) | (simp [*, errW_none, errW_some] <;> rfl) | (simp [IntKind.wrap_i64, wrap64]; done), by repeat (first | (with_reducible first | exact HB.out | apply below_alloc | apply pw_below_drewN | apply below_drew1 | refine below_set ?_ GE232.out) | exact HB.out)⟩
              ·rw [if_neg c114] at H
               have c114b0 : (a1 == 0) = false := beq_eq_false_iff_ne.mpr c114
               have c114b1 : (a1 != 0) = true := bne_iff_ne.mpr c114
               by_cases c118 : a1 = 1
               ·rw [if_pos c118] at H
                have c118b0 : (a1 == 1) = true := beq_iff_eq.mpr c118
                have c118b1 : (a1 != 1) = false := bne_eq_false_iff_eq.mpr c118
                clear c118
                obtain rfl := Option.some.inj H
                go_wp2
                go_ret
                exact ⟨by first | rfl | (simp [errW_none, errW_some] <;> rfl) | (simp [*, errW_none, errW_some] <;> rfl) | (simp [IntKind.wrap_i64, wrap64]; done), by repeat (first | (with_reducible first | exact HB.out | apply below_alloc | apply pw_below_drewN | apply below_drew1 | refine below_set ?_ GE232.out) | exact HB.out)⟩
               ·rw [if_neg c118] at H
                have c118b0 : (a1 == 1) = false := beq_eq_false_iff_ne.mpr c118
                have c118b1 : (a1 != 1) = true := bne_iff_ne.mpr c118
                obtain rfl := Option.some.inj H
                go_wp2
                go_ret
                exact ⟨by first | rfl | (simp [errW_none, errW_some] <;> rfl) | (simp [*, errW_none, errW_some] <;> rfl) | (simp [IntKind.wrap_i64, wrap64]; done), by repeat (first | (with_reducible first | exact HB.out | apply below_alloc | apply pw_below_drewN | apply below_drew1 | refine below_set ?_ GE232.out) | exact HB.out)⟩
             ·rw [if_neg c113] at H
              have c113b0 : (a0 == 15) = false := beq_eq_false_iff_ne.mpr c113
              have c113b1 : (a0 != 15) = true := bne_iff_ne.mpr c113
              by_cases c119 : a0 = 16
              ·rw [if_pos c119] at H
               have c119b0 : (a0 == 16) = true := beq_iff_eq.mpr c119
               have c119b1 : (a0 != 16) = false := bne_eq_false_iff_eq.mpr c119
               clear c119
               by_cases c120 : a1 < 2
               ·rw [if_pos c120] at H
                have c120b0 : decide (a1 < 2) = true := decide_eq_true c120
                clear c120
                replace H := Option.bind_eq_some_iff.mp H
                obtain ⟨t245, A1210, H⟩ := H
                replace H : (if t245 = true then (some true) else (if a1 = 2 then (some (a2_0 == 11)) else (some false))) = some r := H
                have A121 := Aside0.mk A1210
                clear A1210
                by_cases c122 : t245 = true
                ·subst c122
                 have H1 : (some true) = some r := by rw [if_pos rfl] at H; exact H
                 clear H
                 have H := H1
                 clear H1
                 obtain rfl := Option.some.inj H
                 go_wp2_with (first | (go_at_call 45; (with_reducible refine (assessorref03_IsExpression.calls a2_0 true _ A121.out).mono ?_); rintro e w' ⟨rfl, ⟨nd, rfl⟩⟩))
                 go_ret
                 exact ⟨by first | rfl | (simp [errW_none, errW_some] <;> rfl) | (simp [*, errW_none, errW_some] <;> rfl) | (simp [IntKind.wrap_i64, wrap64]; done), by repeat (first | (with_reducible first | exact HB.out | apply below_alloc | apply pw_below_drewN | apply below_drew1 | refine below_set ?_ GE232.out) | exact HB.out)⟩
                ·replace c122 := Bool.eq_false_iff.mpr c122
                 subst c122
                 have H1 : (if a1 = 2 then (some (a2_0 == 11)) else (some false)) = some r := by rw [if_neg (show ¬ (false = true) by decide)] at H; exact H
                 clear H
                 have H := H1
                 clear H1
                 by_cases c123 : a1 = 2
                 ·rw [if_pos c123] at H
                  have c123b0 : (a1 == 2) = true := beq_iff_eq.mpr c123
                  have c123b1 : (a1 != 2) = false := bne_eq_false_iff_eq.mpr c123
                  clear c123
                  obtain rfl := Option.some.inj H
                  go_wp2_with (first | (go_at_call 45; (with_reducible refine (assessorref03_IsExpression.calls a2_0 false _ A121.out).mono ?_); rintro e w' ⟨rfl, ⟨nd, rfl⟩⟩))
                  go_ret
                  exact ⟨by first | rfl | (simp [errW_none, errW_some] <;> rfl) | (simp [*, errW_none, errW_some] <;> rfl) | (simp [IntKind.wrap_i64, wrap64]; done), by repeat (first | (with_reducible first | exact HB.out | apply below_alloc | apply pw_below_drewN | apply below_drew1 | refine below_set ?_ GE232.out) | exact HB.out)⟩
                 ·rw [if_neg c123] at H
                  have c123b0 : (a1 == 2) = false := beq_eq_false_iff_ne.mpr c123
                  have c123b1 : (a1 != 2) = true := bne_iff_ne.mpr c123
                  obtain rfl := Option.some.inj H
                  go_wp2_with (first | (go_at_call 45; (with_reducible refine (assessorref03_IsExpression.calls a2_0 false _ A121.out).mono ?_); rintro e w' ⟨rfl, ⟨nd, rfl⟩⟩))
                  go_ret
                  exact ⟨by first | rfl | (simp [errW_none, errW_some] <;> rfl) | (simp [*, errW_none, errW_some] <;> rfl) | (simp [IntKind.wrap_i64, wrap64]; done), by repeat (first | (with_reducible first | exact HB.out | apply below_alloc | apply pw_below_drewN | apply below_drew1 | refine below_set ?_ GE232.out) | exact HB.out)⟩
               ·rw [if_neg c120] at H
                have c120b0 : decide (a1 < 2) = false := decide_eq_false c120
                clear c120
                by_cases c124 : a1 = 2
                ·rw [if_pos c124] at H
                 have c124b0 : (a1 == 2) = true := beq_iff_eq.mpr c124
                 have c124b1 : (a1 != 2) = false := bne_eq_false_iff_eq.mpr c124
                 clear c124
                 obtain rfl := Option.some.inj H
                 go_wp2
                 go_ret
                 exact ⟨by first | rfl | (simp [errW_none, errW_some] <;> rfl) | (simp [*, errW_none, errW_some] <;> rfl) | (simp [IntKind.wrap_i64, wrap64]; done), by repeat (first | (with_reducible first | exact HB.out | apply below_alloc | apply pw_below_drewN | apply below_drew1 | refine below_set ?_ GE232.out) | exact HB.out)⟩
                ·rw [if_neg c124] at H
                 have c124b0 : (a1 == 2) = false := beq_eq_false_iff_ne.mpr c124
                 have c124b1 : (a1 != 2) = true := bne_iff_ne.mpr c124
                 obtain rfl := Option.some.inj H
                 go_wp2
                 go_ret
                 exact ⟨by first | rfl | (simp [errW_none, errW_some] <;> rfl) | (simp [*, errW_none, errW_some] <;> rfl) | (simp [IntKind.wrap_i64, wrap64]; done), by repeat (first | (with_reducible first | exact HB.out | apply below_alloc | apply pw_below_drewN | apply below_drew1 | refine below_set ?_ GE232.out) | exact HB.out)⟩
              ·rw [if_neg c119] at H
               have c119b0 : (a0 == 16) = false := beq_eq_false_iff_ne.mpr c119
               have c119b1 : (a0 != 16) = true := bne_iff_ne.mpr c119
               by_cases c125 : a0 = 17
               ·rw [if_pos c125] at H
                have c125b0 : (a0 == 17) = true := beq_iff_eq.mpr c125
                have c125b1 : (a0 != 17) = false := bne_eq_false_iff_eq.mpr c125
                clear c125
                replace H := Option.bind_eq_some_iff.mp H
                obtain ⟨t246, A1260, H⟩ := H
                replace H : (if t246 = true then (some true) else (some (a2_0 == 0))) = some r := H
                have A126 := Aside0.mk A1260
                clear A1260
                by_cases c127 : t246 = true
                ·subst c127
                 have H1 : (some true) = some r := by rw [if_pos rfl] at H; exact H
                 clear H
                 have H := H1
                 clear H1
                 obtain rfl := Option.some.inj H
                 go_wp2_with (first | ((with_reducible refine gate_callee (f := 45) rfl ?_); refine goesL_ (some 189) rfl rfl Try.func45 (by kernel_rfl) rfl #[.int .i64 a2_0] rfl (by (try simp only [List.map_toArray, List.map_cons, List.map_nil]); first | done | rfl | (simp only [List.length_drop, List.length_take]; rfl)) ?_; (with_reducible refine (assessorref03_IsExpression.calls a2_0 true _ A126.out).mono ?_); rintro e w' ⟨rfl, ⟨nd, rfl⟩⟩; refine ⟨_, rfl, ?_⟩))
                 go_ret
                 exact ⟨by first | rfl | (simp [errW_none, errW_some] <;> rfl) | (simp [*, errW_none, errW_some] <;> rfl) | (simp [IntKind.wrap_i64, wrap64]; done), by repeat (first | (with_reducible first | exact HB.out | apply below_alloc | apply pw_below_drewN | apply below_drew1 | refine below_set ?_ GE232.out) | exact HB.out)⟩
                ·replace c127 := Bool.eq_false_iff.mpr c127
                 subst c127
                 have H1 : (some (a2_0 == 0)) = some r := by rw [if_neg (show ¬ (false = true) by decide)] at H; exact H
                 clear H
                 have H := H1
                 clear H1
                 obtain rfl := Option.some.inj H
                 go_wp2_with (first | ((with_reducible refine gate_callee (f := 45) rfl ?_); refine goesL_ (some 189) rfl rfl Try.func45 (by kernel_rfl) rfl #[.int .i64 a2_0] rfl (by (try simp only [List.map_toArray, List.map_cons, List.map_nil]); first | done | rfl | (simp only [List.length_drop, List.length_take]; rfl)) ?_; (with_reducible refine (assessorref03_IsExpression.calls a2_0 false _ A126.out).mono ?_); rintro e w' ⟨rfl, ⟨nd, rfl⟩⟩; refine ⟨_, rfl, ?_⟩))
                 go_ret
                 exact ⟨by first | rfl | (simp [errW_none, errW_some] <;> rfl) | (simp [*, errW_none, errW_some] <;> rfl) | (simp [IntKind.wrap_i64, wrap64]; done), by repeat (first | (with_reducible first | exact HB.out | apply below_alloc | apply pw_below_drewN | apply below_drew1 | refine below_set ?_ GE232.out) | exact HB.out)⟩
               ·rw [if_neg c125] at H
                have c125b0 : (a0 == 17) = false := beq_eq_false_iff_ne.mpr c125
                have c125b1 : (a0 != 17) = true := bne_iff_ne.mpr c125
                by_cases c128 : a0 = 21
                ·rw [if_pos c128] at H
                 have c128b0 : (a0 == 21) = true := beq_iff_eq.mpr c128
                 have c128b1 : (a0 != 21) = false := bne_eq_false_iff_eq.mpr c128
                 clear c128
                 by_cases c129 : a1 = 0
                 ·rw [if_pos c129] at H
                  have c129b0 : (a1 == 0) = true := beq_iff_eq.mpr c129
                  have c129b1 : (a1 != 0) = false := bne_eq_false_iff_eq.mpr c129
                  clear c129
                  by_cases c130 : a2_0 = 20
                  ·rw [if_pos c130] at H
                   have c130b0 : (a2_0 == 20) = true := beq_iff_eq.mpr c130
                   have c130b1 : (a2_0 != 20) = false := bne_eq_false_iff_eq.mpr c130
                   clear c130
                   obtain rfl := Option.some.inj H
                   go_wp2
                   go_ret
                   exact ⟨by first | rfl | (simp [errW_none, errW_some] <;> rfl) | (simp [*, errW_none, errW_some] <;> rfl) | (simp [IntKind.wrap_i64, wrap64]; done), by repeat (first | (with_reducible first | exact HB.out | apply below_alloc | apply pw_below_drewN | apply below_drew1 | refine below_set ?_ GE232.out) | exact HB.out)⟩
                  ·rw [if_neg c130] at H
                   have c130b0 : (a2_0 == 20) = false := beq_eq_false_iff_ne.mpr c130
                   have c130b1 : (a2_0 != 20) = true := bne_iff_ne.mpr c130
                   by_cases c131 : a1 = 1
                   ·rw [if_pos c131] at H
                    have c131b0 : (a1 == 1) = true := beq_iff_eq.mpr c131
                    have c131b1 : (a1 != 1) = false := bne_eq_false_iff_eq.mpr c131
                    clear c131
                    replace H := Option.bind_eq_some_iff.mp H
                    obtain ⟨t247, A1320, H⟩ := H
                    replace H : (some t247) = some r := H
                    have A132 := Aside0.mk A1320
                    clear A1320
                    obtain rfl := Option.some.inj H
                    go_wp2_with (first | (go_at_call 45; (with_reducible refine (assessorref03_IsExpression.calls a2_0 t247 _ A132.out).mono ?_); rintro e w' ⟨rfl, ⟨nd, rfl⟩⟩))
                    go_ret
                    exact ⟨by first | rfl | (simp [errW_none, errW_some] <;> rfl) | (simp [*, errW_none, errW_some] <;> rfl) | (simp [IntKind.wrap_i64, wrap64]; done), by repeat (first | (with_reducible first | exact HB.out | apply below_alloc | apply pw_below_drewN | apply below_drew1 | refine below_set ?_ GE232.out) | exact HB.out)⟩
                   ·rw [if_neg c131] at H
                    have c131b0 : (a1 == 1) = false := beq_eq_false_iff_ne.mpr c131
                    have c131b1 : (a1 != 1) = true := bne_iff_ne.mpr c131
                    obtain rfl := Option.some.inj H
                    go_wp2
                    go_ret
                    exact ⟨by first | rfl | (simp [errW_none, errW_some] <;> rfl) | (simp [*, errW_none, errW_some] <;> rfl) | (simp [IntKind.wrap_i64, wrap64]; done), by repeat (first | (with_reducible first | exact HB.out | apply below_alloc | apply pw_below_drewN | apply below_drew1 | refine below_set ?_ GE232.out) | exact HB.out)⟩
                 ·rw [if_neg c129] at H
                  have c129b0 : (a1 == 0) = false := beq_eq_false_iff_ne.mpr c129
                  have c129b1 : (a1 != 0) = true := bne_iff_ne.mpr c129
                  by_cases c133 : a1 = 1
                  ·rw [if_pos c133] at H
                   have c133b0 : (a1 == 1) = true := beq_iff_eq.mpr c133
                   have c133b1 : (a1 != 1) = false := bne_eq_false_iff_eq.mpr c133
                   clear c133
                   replace H := Option.bind_eq_some_iff.mp H
                   obtain ⟨t248, A1340, H⟩ := H
                   replace H : (some t248) = some r := H
                   have A134 := Aside0.mk A1340
                   clear A1340
                   obtain rfl := Option.some.inj H
                   go_wp2_with (first | (go_at_call 45; (with_reducible refine (assessorref03_IsExpression.calls a2_0 t248 _ A134.out).mono ?_); rintro e w' ⟨rfl, ⟨nd, rfl⟩⟩))
                   go_ret
                   exact ⟨by first | rfl | (simp [errW_none, errW_some] <;> rfl) | (simp [*, errW_none, errW_some] <;> rfl) | (simp [IntKind.wrap_i64, wrap64]; done), by repeat (first | (with_reducible first | exact HB.out | apply below_alloc | apply pw_below_drewN | apply below_drew1 | refine below_set ?_ GE232.out) | exact HB.out)⟩
                  ·rw [if_neg c133] at H
                   have c133b0 : (a1 == 1) = false := beq_eq_false_iff_ne.mpr c133
                   have c133b1 : (a1 != 1) = true := bne_iff_ne.mpr c133
                   obtain rfl := Option.some.inj H
                   go_wp2
                   go_ret
                   exact ⟨by first | rfl | (simp [errW_none, errW_some] <;> rfl) | (simp [*, errW_none, errW_some] <;> rfl) | (simp [IntKind.wrap_i64, wrap64]; done), by repeat (first | (with_reducible first | exact HB.out | apply below_alloc | apply pw_below_drewN | apply below_drew1 | refine below_set ?_ GE232.out) | exact HB.out)⟩
                ·rw [if_neg c128] at H
                 have c128b0 : (a0 == 21) = false := beq_eq_false_iff_ne.mpr c128
                 have c128b1 : (a0 != 21) = true := bne_iff_ne.mpr c128
                 by_cases c135 : a0 = 22
                 ·rw [if_pos c135] at H
                  have c135b0 : (a0 == 22) = true := beq_iff_eq.mpr c135
                  have c135b1 : (a0 != 22) = false := bne_eq_false_iff_eq.mpr c135
                  clear c135
                  obtain rfl := Option.some.inj H
                  go_wp2
                  go_ret
                  exact ⟨by first | rfl | (simp [errW_none, errW_some] <;> rfl) | (simp [*, errW_none, errW_some] <;> rfl) | (simp [IntKind.wrap_i64, wrap64]; done), by repeat (first | (with_reducible first | exact HB.out | apply below_alloc | apply pw_below_drewN | apply below_drew1 | refine below_set ?_ GE232.out) | exact HB.out)⟩
                 ·rw [if_neg c135] at H
                  have c135b0 : (a0 == 22) = false := beq_eq_false_iff_ne.mpr c135
                  have c135b1 : (a0 != 22) = true := bne_iff_ne.mpr c135
                  by_cases c136 : a0 = 23
                  ·rw [if_pos c136] at H
                   have c136b0 : (a0 == 23) = true := beq_iff_eq.mpr c136
                   have c136b1 : (a0 != 23) = false := bne_eq_false_iff_eq.mpr c136
                   clear c136
                   obtain rfl := Option.some.inj H
                   go_wp2
                   go_ret
                   exact ⟨by first | rfl | (simp [errW_none, errW_some] <;> rfl) | (simp [*, errW_none, errW_some] <;> rfl) | (simp [IntKind.wrap_i64, wrap64]; done), by repeat (first | (with_reducible first | exact HB.out | apply below_alloc | apply pw_below_drewN | apply below_drew1 | refine below_set ?_ GE232.out) | exact HB.out)⟩
                  ·rw [if_neg c136] at H
                   have c136b0 : (a0 == 23) = false := beq_eq_false_iff_ne.mpr c136
                   have c136b1 : (a0 != 23) = true := bne_iff_ne.mpr c136
                   replace H := Option.bind_eq_some_iff.mp H
                   obtain ⟨t249, A1370, H⟩ := H
                   replace H : (some t249) = some r := H
                   have A137 := Aside0.mk A1370
                   clear A1370
                   obtain rfl := Option.some.inj H
                   go_wp2_with (first | ((with_reducible refine gate_callee (f := 45) rfl ?_); refine goesL_ (some 216) rfl rfl Try.func45 (by kernel_rfl) rfl #[.int .i64 a2_0] rfl (by (try simp only [List.map_toArray, List.map_cons, List.map_nil]); first | done | rfl | (simp only [List.length_drop, List.length_take]; rfl)) ?_; (with_reducible refine (assessorref03_IsExpression.calls a2_0 t249 _ A137.out).mono ?_); rintro e w' ⟨rfl, ⟨nd, rfl⟩⟩; refine ⟨_, rfl, ?_⟩))
                   go_ret
                   exact ⟨by first | rfl | (simp [errW_none, errW_some] <;> rfl) | (simp [*, errW_none, errW_some] <;> rfl) | (simp [IntKind.wrap_i64, wrap64]; done), by repeat (first | (with_reducible first | exact HB.out | apply below_alloc | apply pw_below_drewN | apply below_drew1 | refine below_set ?_ GE232.out) | exact HB.out)⟩

end Go.Proofs.Ytbheobngeocdfaa.PAll
