/- What the machine's calls come to, function by function: printed by a program of this session after the kit's print; Lean checks it. SLIM -/
import Derived.Test.YtbheobngeocdfaaPAllx0
import Derived.Test.YtbheobngeocdfaaPAllxf23
import Derived.Test.YtbheobngeocdfaaPAllxf11
import Derived.Test.YtbheobngeocdfaaPAllxf24
import Derived.Test.YtbheobngeocdfaaPAllxf25
import Derived.Test.YtbheobngeocdfaaPAllxf35
import Derived.Test.YtbheobngeocdfaaPAllxf37
import Derived.Test.YtbheobngeocdfaaG1
namespace Go.Proofs.Ytbheobngeocdfaa.PAll
open Go.RowKit Go.Proofs.YtbheobngeocdfaaW.PrintWords Go.Proofs.YtbheobngeocdfaaW.PrintLast Go.Proofs.YtbheobngeocdfaaW.PrintMore
attribute [local go_sem] max2_int min2_int max_two min_two max_three min_three max_four min_four   -- for this text's walks alone
set_option linter.unusedVariables false
set_option linter.unusedSimpArgs false

/-! ### assessorlaw03_TreeRestores: function 9 -/
mutual
def assessorlaw03_TreeRestores.j0 : Nat → List Int → Int → Int → List (S24) → Bool → Int → ByteArray → Int → Int → List (S24) → Option (Bool)
 | 0, _, _, _, _, _, _, _, _, _, _ => none
 | k + 1, x1, x2, x3, x4, x34, x627000, x627001, x627002, x627003, x627004 => if x34 = true then ((assessorlaw03_awake.f k).bind fun t628 => (some t628)) else (assessorlaw03_TreeRestores.l0 k x1 x2 x3 x4 0 x4 (x4.length : Int) 0 x627000 x627001 x627002 x627003 x627004)
def assessorlaw03_TreeRestores.l0 : Nat → List Int → Int → Int → List (S24) → Int → List (S24) → Int → Int → Int → ByteArray → Int → Int → List (S24) → Option (Bool)
 | 0, _, _, _, _, _, _, _, _, _, _, _, _, _ => none
 | k + 1, x1, x2, x3, x4, x11, x36, x37, x38, x627000, x627001, x627002, x627003, x627004 => if x38 < x37 then (if 0 ≤ x38 then (if x38 < (x36.length : Int) then ((assessorref03_Small.f k ((rd_T24 x36 x38).f0) ((rd_T24 x36 x38).f1) ((rd_T24 x36 x38).f2) ((rd_T24 x36 x38).f3) ((rd_T24 x36 x38).f4) 30).bind fun t631 => (if t631 = true then ((assessorref03_Count.f k ((rd_T24 x36 x38).f0) ((rd_T24 x36 x38).f1) ((rd_T24 x36 x38).f2) ((rd_T24 x36 x38).f3) ((rd_T24 x36 x38).f4)).bind fun t632 => (assessorlaw03_TreeRestores.l0 k x1 x2 x3 x4 (wrap64 (x11 + t632)) x36 x37 (wrap64 (x38 + 1)) x627000 x627001 x627002 x627003 x627004)) else ((assessorlaw03_awake.f k).bind fun t633 => (some t633)))) else (none)) else (none)) else ((tree_Replace.f k x627000 x627001 x627002 x627003 x627004 x1 x2 x3 x4).bind fun bt634 => (if bt634.2.2.2.2.2 = 0 then ((tree_Get.f k x627000 x627001 x627002 x627003 x627004 x1).bind fun bt644 => (if bt644.2.2.2.2.2 = true then (if x2 < 0 then (assessorlaw03_TreeRestores.j2 k x1 x2 x3 x4 x11 true x627000 x627001 x627002 x627003 x627004 bt634.1 bt634.2.1 bt634.2.2.1 bt634.2.2.2.1 bt634.2.2.2.2.1 bt644.1 bt644.2.1 bt644.2.2.1 bt644.2.2.2.1 bt644.2.2.2.2.1) else (if x2 > x3 then (assessorlaw03_TreeRestores.j2 k x1 x2 x3 x4 x11 true x627000 x627001 x627002 x627003 x627004 bt634.1 bt634.2.1 bt634.2.2.1 bt634.2.2.2.1 bt634.2.2.2.2.1 bt644.1 bt644.2.1 bt644.2.2.1 bt644.2.2.2.1 bt644.2.2.2.2.1) else (assessorlaw03_TreeRestores.j2 k x1 x2 x3 x4 x11 (decide (x3 > (bt644.2.2.2.2.1.length : Int))) x627000 x627001 x627002 x627003 x627004 bt634.1 bt634.2.1 bt634.2.2.1 bt634.2.2.2.1 bt634.2.2.2.2.1 bt644.1 bt644.2.1 bt644.2.2.1 bt644.2.2.2.1 bt644.2.2.2.2.1))) else (assessorlaw03_TreeRestores.j2 k x1 x2 x3 x4 x11 true x627000 x627001 x627002 x627003 x627004 bt634.1 bt634.2.1 bt634.2.2.1 bt634.2.2.2.1 bt634.2.2.2.2.1 bt644.1 bt644.2.1 bt644.2.2.1 bt644.2.2.2.1 bt644.2.2.2.2.1))) else ((assessorlaw03_awake.f k).bind fun t643 => (some t643))))
def assessorlaw03_TreeRestores.j2 : Nat → List Int → Int → Int → List (S24) → Int → Bool → Int → ByteArray → Int → Int → List (S24) → Int → ByteArray → Int → Int → List (S24) → Int → ByteArray → Int → Int → List (S24) → Option (Bool)
 | 0, _, _, _, _, _, _, _, _, _, _, _, _, _, _, _, _, _, _, _, _, _ => none
 | k + 1, x1, x2, x3, x4, x11, x86, x627000, x627001, x627002, x627003, x627004, x643000, x643001, x643002, x643003, x643004, x653000, x653001, x653002, x653003, x653004 => if x86 = true then (some false) else (if 0 ≤ x2 then (if x2 ≤ x3 then (if x3 ≤ (x653004.length : Int) then ((some ((x653004.take (x3 : Int).toNat).drop (x2 : Int).toNat : List (S24))).bind fun y653 => (assessorlaw03_TreeRestores.l1 k x1 x2 x3 x4 x11 y653 (y653.length : Int) 0 x627000 x627001 x627002 x627003 x627004 x643000 x643001 x643002 x643003 x643004 x653000 x653001 x653002 x653003 x653004)) else (none)) else (none)) else (none))
def assessorlaw03_TreeRestores.l1 : Nat → List Int → Int → Int → List (S24) → Int → List (S24) → Int → Int → Int → ByteArray → Int → Int → List (S24) → Int → ByteArray → Int → Int → List (S24) → Int → ByteArray → Int → Int → List (S24) → Option (Bool)
 | 0, _, _, _, _, _, _, _, _, _, _, _, _, _, _, _, _, _, _, _, _, _, _, _ => none
 | k + 1, x1, x2, x3, x4, x11, x91, x92, x93, x627000, x627001, x627002, x627003, x627004, x643000, x643001, x643002, x643003, x643004, x653000, x653001, x653002, x653003, x653004 => if x93 < x92 then (if 0 ≤ x93 then (if x93 < (x91.length : Int) then ((assessorref03_Count.f k ((rd_T24 x91 x93).f0) ((rd_T24 x91 x93).f1) ((rd_T24 x91 x93).f2) ((rd_T24 x91 x93).f3) ((rd_T24 x91 x93).f4)).bind fun t660 => (assessorlaw03_TreeRestores.l1 k x1 x2 x3 x4 (wrap64 (x11 - t660)) x91 x92 (wrap64 (x93 + 1)) x627000 x627001 x627002 x627003 x627004 x643000 x643001 x643002 x643003 x643004 x653000 x653001 x653002 x653003 x653004)) else (none)) else (none)) else (if 0 ≤ x2 then (if x2 ≤ x3 then (if x3 ≤ (x653004.length : Int) then ((tree_Replace.f k x643000 x643001 x643002 x643003 x643004 x1 x2 (wrap64 (x2 + (x4.length : Int))) ((x653004.take (x3 : Int).toNat).drop (x2 : Int).toNat)).bind fun bt666 => (if bt666.2.2.2.2.2 = 0 then ((assessorref03_Equal.f k bt666.1 bt666.2.1 bt666.2.2.1 bt666.2.2.2.1 bt666.2.2.2.2.1 x627000 x627001 x627002 x627003 x627004).bind fun t675 => (if t675 = true then ((tree_Count.f x643000 x643001 x643002 x643003 x643004).bind fun t676 => ((tree_Count.f x627000 x627001 x627002 x627003 x627004).bind fun t677 => (if t676 = (wrap64 (t677 + x11)) then ((assessorlaw03_awake.f k).bind fun t678 => (some t678)) else (none)))) else (none))) else (none))) else (none)) else (none)) else (none))
end
def assessorlaw03_TreeRestores.f (k : Nat) (a0_0 : Int) (a0_1 : ByteArray) (a0_2 : Int) (a0_3 : Int) (l0_4 : List (S24)) (l1 : List Int) (a2 : Int) (a3 : Int) (l4 : List (S24)) : Option (Bool) := (assessorref03_Small.f k a0_0 a0_1 a0_2 a0_3 l0_4 100).bind fun t627 => (if t627 = true then (if (l1.length : Int) > 20 then (assessorlaw03_TreeRestores.j0 k l1 a2 a3 l4 true a0_0 a0_1 a0_2 a0_3 l0_4) else (assessorlaw03_TreeRestores.j0 k l1 a2 a3 l4 (decide ((l4.length : Int) > 10)) a0_0 a0_1 a0_2 a0_3 l0_4)) else (assessorlaw03_TreeRestores.j0 k l1 a2 a3 l4 true a0_0 a0_1 a0_2 a0_3 l0_4))
theorem assessorlaw03_TreeRestores.mono_l : ∀ k, (∀ y0 y1 y2 y3 y4 y5 y6 y7 y8 y9, LeO (assessorlaw03_TreeRestores.j0 k y0 y1 y2 y3 y4 y5 y6 y7 y8 y9) (assessorlaw03_TreeRestores.j0 (k + 1) y0 y1 y2 y3 y4 y5 y6 y7 y8 y9)) ∧ (∀ y0 y1 y2 y3 y4 y5 y6 y7 y8 y9 y10 y11 y12, LeO (assessorlaw03_TreeRestores.l0 k y0 y1 y2 y3 y4 y5 y6 y7 y8 y9 y10 y11 y12) (assessorlaw03_TreeRestores.l0 (k + 1) y0 y1 y2 y3 y4 y5 y6 y7 y8 y9 y10 y11 y12)) ∧ (∀ y0 y1 y2 y3 y4 y5 y6 y7 y8 y9 y10 y11 y12 y13 y14 y15 y16 y17 y18 y19 y20, LeO (assessorlaw03_TreeRestores.j2 k y0 y1 y2 y3 y4 y5 y6 y7 y8 y9 y10 y11 y12 y13 y14 y15 y16 y17 y18 y19 y20) (assessorlaw03_TreeRestores.j2 (k + 1) y0 y1 y2 y3 y4 y5 y6 y7 y8 y9 y10 y11 y12 y13 y14 y15 y16 y17 y18 y19 y20)) ∧ (∀ y0 y1 y2 y3 y4 y5 y6 y7 y8 y9 y10 y11 y12 y13 y14 y15 y16 y17 y18 y19 y20 y21 y22, LeO (assessorlaw03_TreeRestores.l1 k y0 y1 y2 y3 y4 y5 y6 y7 y8 y9 y10 y11 y12 y13 y14 y15 y16 y17 y18 y19 y20 y21 y22) (assessorlaw03_TreeRestores.l1 (k + 1) y0 y1 y2 y3 y4 y5 y6 y7 y8 y9 y10 y11 y12 y13 y14 y15 y16 y17 y18 y19 y20 y21 y22))
 | 0 => ⟨fun _ _ _ _ _ _ _ _ _ _ r h => by simp [assessorlaw03_TreeRestores.j0] at h, fun _ _ _ _ _ _ _ _ _ _ _ _ _ r h => by simp [assessorlaw03_TreeRestores.l0] at h, fun _ _ _ _ _ _ _ _ _ _ _ _ _ _ _ _ _ _ _ _ _ r h => by simp [assessorlaw03_TreeRestores.j2] at h, fun _ _ _ _ _ _ _ _ _ _ _ _ _ _ _ _ _ _ _ _ _ _ _ r h => by simp [assessorlaw03_TreeRestores.l1] at h⟩
 | k + 1 => by
  obtain ⟨ih0, ih1, ih2, ih3⟩ := assessorlaw03_TreeRestores.mono_l k
  refine ⟨?_, ?_, ?_, ?_⟩
  ·intro y0 y1 y2 y3 y4 y5 y6 y7 y8 y9
   unfold assessorlaw03_TreeRestores.j0
   repeat' first
   | (with_reducible exact ih0 _ _ _ _ _ _ _ _ _ _)
   | (with_reducible exact ih1 _ _ _ _ _ _ _ _ _ _ _ _ _)
   | (with_reducible exact ih2 _ _ _ _ _ _ _ _ _ _ _ _ _ _ _ _ _ _ _ _ _)
   | (with_reducible exact ih3 _ _ _ _ _ _ _ _ _ _ _ _ _ _ _ _ _ _ _ _ _ _ _)
   | (with_reducible exact assessorlaw03_awake.mono _)
   | (with_reducible exact assessorref03_Count.mono _ _ _ _ _ _)
   | (with_reducible exact assessorref03_Equal.mono _ _ _ _ _ _ _ _ _ _ _)
   | (with_reducible exact assessorref03_Small.mono _ _ _ _ _ _ _)
   | (with_reducible exact tree_Get.mono _ _ _ _ _ _ _)
   | (with_reducible exact tree_Replace.mono _ _ _ _ _ _ _ _ _ _)
   | (with_reducible exact LeO.refl _)
   | (with_reducible exact LeO.none _)
   | (with_reducible refine LeO.ite ?_ ?_)
   | (with_reducible refine LeO.bind ?_ (fun _ => ?_))
   | exact ih0 _ _ _ _ _ _ _ _ _ _
   | exact ih1 _ _ _ _ _ _ _ _ _ _ _ _ _
   | exact ih2 _ _ _ _ _ _ _ _ _ _ _ _ _ _ _ _ _ _ _ _ _
   | exact ih3 _ _ _ _ _ _ _ _ _ _ _ _ _ _ _ _ _ _ _ _ _ _ _
   | exact assessorlaw03_awake.mono _
   | exact assessorref03_Count.mono _ _ _ _ _ _
   | exact assessorref03_Equal.mono _ _ _ _ _ _ _ _ _ _ _
   | exact assessorref03_Small.mono _ _ _ _ _ _ _
   | exact tree_Get.mono _ _ _ _ _ _ _
   | exact tree_Replace.mono _ _ _ _ _ _ _ _ _ _
   | exact LeO.none _
   | refine LeO.ite ?_ ?_
   | refine LeO.bind ?_ (fun _ => ?_)
  ·intro y0 y1 y2 y3 y4 y5 y6 y7 y8 y9 y10 y11 y12
   unfold assessorlaw03_TreeRestores.l0
   repeat' first
   | (with_reducible exact ih0 _ _ _ _ _ _ _ _ _ _)
   | (with_reducible exact ih1 _ _ _ _ _ _ _ _ _ _ _ _ _)
   | (with_reducible exact ih2 _ _ _ _ _ _ _ _ _ _ _ _ _ _ _ _ _ _ _ _ _)
   | (with_reducible exact ih3 _ _ _ _ _ _ _ _ _ _ _ _ _ _ _ _ _ _ _ _ _ _ _)
   | (with_reducible exact assessorlaw03_awake.mono _)
   | (with_reducible exact assessorref03_Count.mono _ _ _ _ _ _)
   | (with_reducible exact assessorref03_Equal.mono _ _ _ _ _ _ _ _ _ _ _)
   | (with_reducible exact assessorref03_Small.mono _ _ _ _ _ _ _)
   | (with_reducible exact tree_Get.mono _ _ _ _ _ _ _)
   | (with_reducible exact tree_Replace.mono _ _ _ _ _ _ _ _ _ _)
   | (with_reducible exact LeO.refl _)
   | (with_reducible exact LeO.none _)
   | (with_reducible refine LeO.ite ?_ ?_)
   | (with_reducible refine LeO.bind ?_ (fun _ => ?_))
   | exact ih0 _ _ _ _ _ _ _ _ _ _
   | exact ih1 _ _ _ _ _ _ _ _ _ _ _ _ _
   | exact ih2 _ _ _ _ _ _ _ _ _ _ _ _ _ _ _ _ _ _ _ _ _
   | exact ih3 _ _ _ _ _ _ _ _ _ _ _ _ _ _ _ _ _ _ _ _ _ _ _
   | exact assessorlaw03_awake.mono _
   | exact assessorref03_Count.mono _ _ _ _ _ _
   | exact assessorref03_Equal.mono _ _ _ _ _ _ _ _ _ _ _
   | exact assessorref03_Small.mono _ _ _ _ _ _ _
   | exact tree_Get.mono _ _ _ _ _ _ _
   | exact tree_Replace.mono _ _ _ _ _ _ _ _ _ _
   | exact LeO.none _
   | refine LeO.ite ?_ ?_
   | refine LeO.bind ?_ (fun _ => ?_)
  ·intro y0 y1 y2 y3 y4 y5 y6 y7 y8 y9 y10 y11 y12 y13 y14 y15 y16 y17 y18 y19 y20
   unfold assessorlaw03_TreeRestores.j2
   repeat' first
   | (with_reducible exact ih0 _ _ _ _ _ _ _ _ _ _)
   | (with_reducible exact ih1 _ _ _ _ _ _ _ _ _ _ _ _ _)
   | (with_reducible exact ih2 _ _ _ _ _ _ _ _ _ _ _ _ _ _ _ _ _ _ _ _ _)
   | (with_reducible exact ih3 _ _ _ _ _ _ _ _ _ _ _ _ _ _ _ _ _ _ _ _ _ _ _)
   | (with_reducible exact assessorlaw03_awake.mono _)
   | (with_reducible exact assessorref03_Count.mono _ _ _ _ _ _)
   | (with_reducible exact assessorref03_Equal.mono _ _ _ _ _ _ _ _ _ _ _)
   | (with_reducible exact assessorref03_Small.mono _ _ _ _ _ _ _)
   | (with_reducible exact tree_Get.mono _ _ _ _ _ _ _)
   | (with_reducible exact tree_Replace.mono _ _ _ _ _ _ _ _ _ _)
   | (with_reducible exact LeO.refl _)
   | (with_reducible exact LeO.none _)
   | (with_reducible refine LeO.ite ?_ ?_)
   | (with_reducible refine LeO.bind ?_ (fun _ => ?_))
   | exact ih0 _ _ _ _ _ _ _ _ _ _
   | exact ih1 _ _ _ _ _ _ _ _ _ _ _ _ _
   | exact ih2 _ _ _ _ _ _ _ _ _ _ _ _ _ _ _ _ _ _ _ _ _
   | exact ih3 _ _ _ _ _ _ _ _ _ _ _ _ _ _ _ _ _ _ _ _ _ _ _
   | exact assessorlaw03_awake.mono _
   | exact assessorref03_Count.mono _ _ _ _ _ _
   | exact assessorref03_Equal.mono _ _ _ _ _ _ _ _ _ _ _
   | exact assessorref03_Small.mono _ _ _ _ _ _ _
   | exact tree_Get.mono _ _ _ _ _ _ _
   | exact tree_Replace.mono _ _ _ _ _ _ _ _ _ _
   | exact LeO.none _
   | refine LeO.ite ?_ ?_
   | refine LeO.bind ?_ (fun _ => ?_)
  ·intro y0 y1 y2 y3 y4 y5 y6 y7 y8 y9 y10 y11 y12 y13 y14 y15 y16 y17 y18 y19 y20 y21 y22
   unfold assessorlaw03_TreeRestores.l1
   repeat' first
   | (with_reducible exact ih0 _ _ _ _ _ _ _ _ _ _)
   | (with_reducible exact ih1 _ _ _ _ _ _ _ _ _ _ _ _ _)
   | (with_reducible exact ih2 _ _ _ _ _ _ _ _ _ _ _ _ _ _ _ _ _ _ _ _ _)
   | (with_reducible exact ih3 _ _ _ _ _ _ _ _ _ _ _ _ _ _ _ _ _ _ _ _ _ _ _)
   | (with_reducible exact assessorlaw03_awake.mono _)
   | (with_reducible exact assessorref03_Count.mono _ _ _ _ _ _)
   | (with_reducible exact assessorref03_Equal.mono _ _ _ _ _ _ _ _ _ _ _)
   | (with_reducible exact assessorref03_Small.mono _ _ _ _ _ _ _)
   | (with_reducible exact tree_Get.mono _ _ _ _ _ _ _)
   | (with_reducible exact tree_Replace.mono _ _ _ _ _ _ _ _ _ _)
   | (with_reducible exact LeO.refl _)
   | (with_reducible exact LeO.none _)
   | (with_reducible refine LeO.ite ?_ ?_)
   | (with_reducible refine LeO.bind ?_ (fun _ => ?_))
   | exact ih0 _ _ _ _ _ _ _ _ _ _
   | exact ih1 _ _ _ _ _ _ _ _ _ _ _ _ _
   | exact ih2 _ _ _ _ _ _ _ _ _ _ _ _ _ _ _ _ _ _ _ _ _
   | exact ih3 _ _ _ _ _ _ _ _ _ _ _ _ _ _ _ _ _ _ _ _ _ _ _
   | exact assessorlaw03_awake.mono _
   | exact assessorref03_Count.mono _ _ _ _ _ _
   | exact assessorref03_Equal.mono _ _ _ _ _ _ _ _ _ _ _
   | exact assessorref03_Small.mono _ _ _ _ _ _ _
   | exact tree_Get.mono _ _ _ _ _ _ _
   | exact tree_Replace.mono _ _ _ _ _ _ _ _ _ _
   | exact LeO.none _
   | refine LeO.ite ?_ ?_
   | refine LeO.bind ?_ (fun _ => ?_)
theorem assessorlaw03_TreeRestores.mono : ∀ a0 a1 a2 a3 a4 a5 a6 a7 a8 k, LeO (assessorlaw03_TreeRestores.f k a0 a1 a2 a3 a4 a5 a6 a7 a8) (assessorlaw03_TreeRestores.f (k + 1) a0 a1 a2 a3 a4 a5 a6 a7 a8) := by
 intro a0 a1 a2 a3 a4 a5 a6 a7 a8 k
 obtain ⟨ih0, ih1, ih2, ih3⟩ := assessorlaw03_TreeRestores.mono_l k
 unfold assessorlaw03_TreeRestores.f
 repeat' first
   | (with_reducible exact ih0 _ _ _ _ _ _ _ _ _ _)
   | (with_reducible exact ih1 _ _ _ _ _ _ _ _ _ _ _ _ _)
   | (with_reducible exact ih2 _ _ _ _ _ _ _ _ _ _ _ _ _ _ _ _ _ _ _ _ _)
   | (with_reducible exact ih3 _ _ _ _ _ _ _ _ _ _ _ _ _ _ _ _ _ _ _ _ _ _ _)
   | (with_reducible exact assessorlaw03_awake.mono _)
   | (with_reducible exact assessorref03_Count.mono _ _ _ _ _ _)
   | (with_reducible exact assessorref03_Equal.mono _ _ _ _ _ _ _ _ _ _ _)
   | (with_reducible exact assessorref03_Small.mono _ _ _ _ _ _ _)
   | (with_reducible exact tree_Get.mono _ _ _ _ _ _ _)
   | (with_reducible exact tree_Replace.mono _ _ _ _ _ _ _ _ _ _)
   | (with_reducible exact LeO.refl _)
   | (with_reducible exact LeO.none _)
   | (with_reducible refine LeO.ite ?_ ?_)
   | (with_reducible refine LeO.bind ?_ (fun _ => ?_))
   | exact ih0 _ _ _ _ _ _ _ _ _ _
   | exact ih1 _ _ _ _ _ _ _ _ _ _ _ _ _
   | exact ih2 _ _ _ _ _ _ _ _ _ _ _ _ _ _ _ _ _ _ _ _ _
   | exact ih3 _ _ _ _ _ _ _ _ _ _ _ _ _ _ _ _ _ _ _ _ _ _ _
   | exact assessorlaw03_awake.mono _
   | exact assessorref03_Count.mono _ _ _ _ _ _
   | exact assessorref03_Equal.mono _ _ _ _ _ _ _ _ _ _ _
   | exact assessorref03_Small.mono _ _ _ _ _ _ _
   | exact tree_Get.mono _ _ _ _ _ _ _
   | exact tree_Replace.mono _ _ _ _ _ _ _ _ _ _
   | exact LeO.none _
   | refine LeO.ite ?_ ?_
   | refine LeO.bind ?_ (fun _ => ?_)
def assessorlaw03_TreeRestores.T22 : Bool × List (List Nat × List Nat) := (true, [([], []), ([], []), ([], []), ([], []), ([], []), ([4], [4]), ([3, 5], [3, 5]), ([], []), ([7], [7]), ([], []), ([], []), ([8, 9, 10], [8, 9, 10]), ([0, 1, 2, 6, 11], [0, 1, 2, 6, 11]), ([12], [12]), ([13], [13]), ([13], [13]), ([], []), ([16, 14, 12, 0, 1, 2, 3, 4, 5, 6, 7, 8, 9, 10, 11, 12, 13, 14, 16], [14, 16]), ([15, 17, 0, 1, 2, 3, 4, 5, 6, 7, 8, 9, 10, 11, 12, 13, 14, 15, 16, 17], [15])])
def assessorlaw03_TreeRestores.B22 : List Nat := [0, 0, 0, 0, 0, 16, 56, 0, 128, 0, 0, 1920, 4095, 8191, 16383, 16383, 0, 98303, 262143]
theorem assessorlaw03_TreeRestores.tab22 : rtab .any (opsOf Try.f9 22) = assessorlaw03_TreeRestores.T22 := by kernel_rfl
theorem assessorlaw03_TreeRestores.bits22 : waitsOk assessorlaw03_TreeRestores.T22.2 assessorlaw03_TreeRestores.B22 = true := by kernel_rfl
def assessorlaw03_TreeRestores.T23 : Bool × List (List Nat × List Nat) := (true, [([], []), ([0], [0]), ([1], [1]), ([2], [2]), ([2], [2]), ([3, 4, 2, 2], [2, 3, 4]), ([2, 5], [2, 5]), ([6, 5], [6]), ([7], [7]), ([8, 7, 7], [7, 8]), ([7], [7]), ([10, 9, 7], [7, 10]), ([7], [7]), ([11, 12, 7], [7, 11, 12]), ([9, 13, 7], [7, 9, 13]), ([7, 14], [7, 14]), ([15, 11], [15]), ([16, 16], [16]), ([16, 17], [16, 17]), ([18, 17, 0, 1, 2, 3, 4, 5, 6, 7, 8, 9, 10, 11, 12, 13, 14, 15, 16, 17, 18], [18])])
def assessorlaw03_TreeRestores.B23 : List Nat := [0, 1, 3, 7, 7, 31, 63, 127, 255, 511, 255, 2047, 255, 8191, 16383, 32767, 65535, 131071, 262143, 524287]
theorem assessorlaw03_TreeRestores.tab23 : rtab .any (opsOf Try.f9 23) = assessorlaw03_TreeRestores.T23 := by kernel_rfl
theorem assessorlaw03_TreeRestores.bits23 : waitsOk assessorlaw03_TreeRestores.T23.2 assessorlaw03_TreeRestores.B23 = true := by kernel_rfl
set_option maxHeartbeats 8000000 in
set_option maxRecDepth 100000 in
theorem assessorlaw03_TreeRestores.calls (k : Nat) (a0_0 : Int) (a0_1 : ByteArray) (a0_2 : Int) (a0_3 : Int) (A0_4 : Option Addr) (c0_4 : Nat) (l0_4 : List (S24)) (A1 : Option Addr) (c1 : Nat) (l1 : List Int) (a2 : Int) (a3 : Int) (A4 : Option Addr) (c4 : Nat) (l4 : List (S24)) (r : Bool) (w : World) (hr0_4 : Kd.C k24 w A0_4 l0_4.length l0_4) (hc0_4 : l0_4.length ≤ c0_4) (hr1 : Kd.C (Kd.int .i64) w A1 l1.length l1) (hc1 : l1.length ≤ c1) (hr4 : Kd.C k24 w A4 l4.length l4) (hc4 : l4.length ≤ c4) (h : assessorlaw03_TreeRestores.f k a0_0 a0_1 a0_2 a0_3 l0_4 l1 a2 a3 l4 = some r) :
  Calls Try.prog 9 #[.agg #[.int .i64 a0_0, .string a0_1, .int .i64 a0_2, .int .i64 a0_3, .slice A0_4 l0_4.length c0_4], .slice A1 l1.length c1, .int .i64 a2, .int .i64 a3, .slice A4 l4.length c4] w fun e w' => e = .returned (.bool r) ∧ Below w.heap.size w w' := by
 have hu24 := Try.underlying24
 have HR0_4 := Aside0.mk hr0_4
 have HC0_4 := Aside0.mk hc0_4
 clear hr0_4 hc0_4
 have HR1 := Aside0.mk hr1
 have HC1 := Aside0.mk hc1
 clear hr1 hc1
 have HR4 := Aside0.mk hr4
 have HC4 := Aside0.mk hc4
 clear hr4 hc4
 have HB := Aside0.mk (Below.refl w.heap.size w)
 have H : ((assessorref03_Small.f k a0_0 a0_1 a0_2 a0_3 l0_4 100).bind fun t627 => (if t627 = true then (if (l1.length : Int) > 20 then (assessorlaw03_TreeRestores.j0 k l1 a2 a3 l4 true a0_0 a0_1 a0_2 a0_3 l0_4) else (assessorlaw03_TreeRestores.j0 k l1 a2 a3 l4 (decide ((l4.length : Int) > 10)) a0_0 a0_1 a0_2 a0_3 l0_4)) else (assessorlaw03_TreeRestores.j0 k l1 a2 a3 l4 true a0_0 a0_1 a0_2 a0_3 l0_4))) = some r := h
 clear h
 have HC6 := Aside0.mk H
 clear H
 go_enter Try.func9, Try.ntmps9
 go_upto_region 1 with (first | ((with_reducible refine gate_dst (N := 5) rfl ?_); (try (refine gate_guard (by rfl) ?_; dsimp only)); refine box_event ?hg (N := 5) ?hd (cs := #[.int .i64 a0_0, .string a0_1, .int .i64 a0_2, .int .i64 a0_3, .slice A0_4 l0_4.length c0_4]) (t := 24) ?hr ?_; (case hd => rfl); (case hg => rfl); (case hr => first | (go_simp; done) | (go_simp; rfl)); intro gb626 hg w7 hbox hb; have n0_ := Aside0.mk (below_step (by repeat (first | (with_reducible first | exact HB.out | apply below_alloc | apply pw_below_drewN | apply below_drew1) | exact HB.out)) hb); have n1_ := Aside0.mk (hbox); have n2_ := Aside0.mk ((by rw [hg]; exact (below_size (by repeat (first | (with_reducible first | exact HB.out | apply below_alloc | apply pw_below_drewN | apply below_drew1) | exact HB.out))) : w.heap.size ≤ gb626)); have n3_ := Aside0.mk ((by rw [hg]; exact (below_size (by repeat (first | (with_reducible first | exact HB.out | apply below_alloc | apply pw_below_drewN | apply below_drew1) | exact HB.out))) : w.heap.size ≤ gb626)); clear HB; have HB := n0_; have BK626 := n1_; have GW626 := n2_; have GE626 := n3_; clear n0_ n1_ n2_ n3_; clear hb hbox hg))
 (try simp only [Act.put, List.setIfInBounds_toArray, List.set_cons_zero, List.set_cons_succ])
 go_cut [34] (fun v34 wc => ∃ (kq : Nat) (x34_5 : Bool), v34 = .bool x34_5 ∧ Aside0 (assessorlaw03_TreeRestores.j0 kq l1 a2 a3 l4 x34_5 a0_0 a0_1 a0_2 a0_3 l0_4 = some r) ∧ Aside0 (kq ≤ k) ∧ Aside0 (wc.heap[gb626]? = some (.cells #[.int .i64 a0_0, .string a0_1, .int .i64 a0_2, .int .i64 a0_3, (.slice A0_4 l0_4.length c0_4)] 24 (0, 0))) ∧ Aside0 (Below w.heap.size w wc))
 case first =>
  have H := HC6.out
  clear HC6
  replace H := Option.bind_eq_some_iff.mp H
  obtain ⟨t627, A80, H⟩ := H
  replace H : (if t627 = true then (if (l1.length : Int) > 20 then (assessorlaw03_TreeRestores.j0 k l1 a2 a3 l4 true a0_0 a0_1 a0_2 a0_3 l0_4) else (assessorlaw03_TreeRestores.j0 k l1 a2 a3 l4 (decide ((l4.length : Int) > 10)) a0_0 a0_1 a0_2 a0_3 l0_4)) else (assessorlaw03_TreeRestores.j0 k l1 a2 a3 l4 true a0_0 a0_1 a0_2 a0_3 l0_4)) = some r := H
  have A8 := Aside0.mk A80
  clear A80
  by_cases c9 : t627 = true
  ·subst c9
   have H1 : (if (l1.length : Int) > 20 then (assessorlaw03_TreeRestores.j0 k l1 a2 a3 l4 true a0_0 a0_1 a0_2 a0_3 l0_4) else (assessorlaw03_TreeRestores.j0 k l1 a2 a3 l4 (decide ((l4.length : Int) > 10)) a0_0 a0_1 a0_2 a0_3 l0_4)) = some r := by rw [if_pos rfl] at H; exact H
   clear H
   have H := H1
   clear H1
   by_cases c10 : (l1.length : Int) > 20
   ·rw [if_pos c10] at H
    have c10b0 : decide (20 < (l1.length : Int)) = true := decide_eq_true c10
    have c10b1 : decide (20 < l1.length) = true := decide_eq_true (by omega)
    clear c10
    (first | rw [c10b0] | (simp only [i64_w, i32_w]; rw [c10b0]) | skip)
    have H' := Aside0.mk H
    clear H
    have hcz11_0 : w7.cell? ⟨gb626, 0, none⟩ = some (.int .i64 a0_0) := (blk_cell BK626.out 0).trans rfl
    have hcz11_1 : w7.cell? ⟨gb626, 1, none⟩ = some (.string a0_1) := (blk_cell BK626.out 1).trans rfl
    have hcz11_2 : w7.cell? ⟨gb626, 2, none⟩ = some (.int .i64 a0_2) := (blk_cell BK626.out 2).trans rfl
    have hcz11_3 : w7.cell? ⟨gb626, 3, none⟩ = some (.int .i64 a0_3) := (blk_cell BK626.out 3).trans rfl
    have hcz11_4 : w7.cell? ⟨gb626, 4, none⟩ = some (.slice A0_4 l0_4.length c0_4) := (blk_cell BK626.out 4).trans rfl
    have hfz11_0 := blk_frozen BK626.out 0
    have hfz11_1 := blk_frozen BK626.out 1
    have hfz11_2 := blk_frozen BK626.out 2
    have hfz11_3 := blk_frozen BK626.out 3
    have hfz11_4 := blk_frozen BK626.out 4
    go_wp2_with (first | ((with_reducible refine gate_callee (f := 10) rfl ?_); refine goesL_ (some 23) rfl rfl Try.func10 (by kernel_rfl) rfl #[.agg #[.int .i64 a0_0, .string a0_1, .int .i64 a0_2, .int .i64 a0_3, .slice A0_4 l0_4.length c0_4], .int .i64 100] rfl (by (try simp only [List.map_toArray, List.map_cons, List.map_nil]); first | done | rfl | (simp only [List.length_drop, List.length_take]; rfl)) ?_; (with_reducible refine (assessorref03_Small.calls k a0_0 a0_1 a0_2 a0_3 _ _ l0_4 100 true _ ?side1 ?side2 A8.out).mono ?_); (case side1 => repeat (first | exact (Kd.C_below HR0_4.out HB.out) | (with_reducible refine Kd.C_alloc ?_ _) | (with_reducible refine Kd.C_drewN ?_ _) | (with_reducible refine Kd.C_drew ?_))); (case side2 => exact HC0_4.out); rintro e w12 ⟨rfl, hb⟩; refine ⟨_, rfl, ?_⟩; have n0_ := Aside0.mk (blk_below (g := gb626) (o := .cells #[.int .i64 a0_0, .string a0_1, .int .i64 a0_2, .int .i64 a0_3, .slice A0_4 l0_4.length c0_4] 24 (0, 0)) (by (with_reducible repeat (first | apply blk_drewN | apply blk_drew | apply blk_alloc)); exact BK626.out) hb); have n1_ := Aside0.mk (below_step (by repeat (first | (with_reducible first | exact HB.out | apply below_alloc | apply pw_below_drewN | apply below_drew1 | refine below_set ?_ GE626.out) | exact HB.out)) hb); clear BK626; clear HB; have BK626 := n0_; have HB := n1_; clear n0_ n1_; (try clear hb); (try clear hb2); (try clear hk); (try clear hi)))
    go_meet
    case rel => exact ⟨_, (true), (by first | rfl | (simp; done) | (simp [*]; done)), H', ⟨by first | omega | exact Nat.le_refl _⟩, ⟨by (with_reducible repeat (first | apply blk_drewN | apply blk_drew | apply blk_alloc)); exact BK626.out⟩, ⟨by repeat (first | (with_reducible first | exact HB.out | apply below_alloc | apply pw_below_drewN | apply below_drew1 | refine below_set ?_ GE626.out) | exact HB.out)⟩⟩
   ·rw [if_neg c10] at H
    have c10b0 : decide (20 < (l1.length : Int)) = false := decide_eq_false c10
    have c10b1 : decide (20 < l1.length) = false := decide_eq_false (by omega)
    clear c10
    (first | rw [c10b0] | (simp only [i64_w, i32_w]; rw [c10b0]) | skip)
    have H' := Aside0.mk H
    clear H
    have hcz13_0 : w7.cell? ⟨gb626, 0, none⟩ = some (.int .i64 a0_0) := (blk_cell BK626.out 0).trans rfl
    have hcz13_1 : w7.cell? ⟨gb626, 1, none⟩ = some (.string a0_1) := (blk_cell BK626.out 1).trans rfl
    have hcz13_2 : w7.cell? ⟨gb626, 2, none⟩ = some (.int .i64 a0_2) := (blk_cell BK626.out 2).trans rfl
    have hcz13_3 : w7.cell? ⟨gb626, 3, none⟩ = some (.int .i64 a0_3) := (blk_cell BK626.out 3).trans rfl
    have hcz13_4 : w7.cell? ⟨gb626, 4, none⟩ = some (.slice A0_4 l0_4.length c0_4) := (blk_cell BK626.out 4).trans rfl
    have hfz13_0 := blk_frozen BK626.out 0
    have hfz13_1 := blk_frozen BK626.out 1
    have hfz13_2 := blk_frozen BK626.out 2
    have hfz13_3 := blk_frozen BK626.out 3
    have hfz13_4 := blk_frozen BK626.out 4
    go_wp2_with (first | ((with_reducible refine gate_callee (f := 10) rfl ?_); refine goesL_ (some 23) rfl rfl Try.func10 (by kernel_rfl) rfl #[.agg #[.int .i64 a0_0, .string a0_1, .int .i64 a0_2, .int .i64 a0_3, .slice A0_4 l0_4.length c0_4], .int .i64 100] rfl (by (try simp only [List.map_toArray, List.map_cons, List.map_nil]); first | done | rfl | (simp only [List.length_drop, List.length_take]; rfl)) ?_; (with_reducible refine (assessorref03_Small.calls k a0_0 a0_1 a0_2 a0_3 _ _ l0_4 100 true _ ?side1 ?side2 A8.out).mono ?_); (case side1 => repeat (first | exact (Kd.C_below HR0_4.out HB.out) | (with_reducible refine Kd.C_alloc ?_ _) | (with_reducible refine Kd.C_drewN ?_ _) | (with_reducible refine Kd.C_drew ?_))); (case side2 => exact HC0_4.out); rintro e w14 ⟨rfl, hb⟩; refine ⟨_, rfl, ?_⟩; have n0_ := Aside0.mk (blk_below (g := gb626) (o := .cells #[.int .i64 a0_0, .string a0_1, .int .i64 a0_2, .int .i64 a0_3, .slice A0_4 l0_4.length c0_4] 24 (0, 0)) (by (with_reducible repeat (first | apply blk_drewN | apply blk_drew | apply blk_alloc)); exact BK626.out) hb); have n1_ := Aside0.mk (below_step (by repeat (first | (with_reducible first | exact HB.out | apply below_alloc | apply pw_below_drewN | apply below_drew1 | refine below_set ?_ GE626.out) | exact HB.out)) hb); clear BK626; clear HB; have BK626 := n0_; have HB := n1_; clear n0_ n1_; (try clear hb); (try clear hb2); (try clear hk); (try clear hi)))
    go_meet
    case rel => exact ⟨_, (decide ((l4.length : Int) > 10)), (by first | rfl | (simp; done) | (simp [*]; done)), H', ⟨by first | omega | exact Nat.le_refl _⟩, ⟨by (with_reducible repeat (first | apply blk_drewN | apply blk_drew | apply blk_alloc)); exact BK626.out⟩, ⟨by repeat (first | (with_reducible first | exact HB.out | apply below_alloc | apply pw_below_drewN | apply below_drew1 | refine below_set ?_ GE626.out) | exact HB.out)⟩⟩
  ·replace c9 := Bool.eq_false_iff.mpr c9
   subst c9
   have H1 : (assessorlaw03_TreeRestores.j0 k l1 a2 a3 l4 true a0_0 a0_1 a0_2 a0_3 l0_4) = some r := by rw [if_neg (show ¬ (false = true) by decide)] at H; exact H
   clear H
   have H := H1
   clear H1
   have H' := Aside0.mk H
   clear H
   have hcz15_0 : w7.cell? ⟨gb626, 0, none⟩ = some (.int .i64 a0_0) := (blk_cell BK626.out 0).trans rfl
   have hcz15_1 : w7.cell? ⟨gb626, 1, none⟩ = some (.string a0_1) := (blk_cell BK626.out 1).trans rfl
   have hcz15_2 : w7.cell? ⟨gb626, 2, none⟩ = some (.int .i64 a0_2) := (blk_cell BK626.out 2).trans rfl
   have hcz15_3 : w7.cell? ⟨gb626, 3, none⟩ = some (.int .i64 a0_3) := (blk_cell BK626.out 3).trans rfl
   have hcz15_4 : w7.cell? ⟨gb626, 4, none⟩ = some (.slice A0_4 l0_4.length c0_4) := (blk_cell BK626.out 4).trans rfl
   have hfz15_0 := blk_frozen BK626.out 0
   have hfz15_1 := blk_frozen BK626.out 1
   have hfz15_2 := blk_frozen BK626.out 2
   have hfz15_3 := blk_frozen BK626.out 3
   have hfz15_4 := blk_frozen BK626.out 4
   go_wp2_with (first | ((with_reducible refine gate_callee (f := 10) rfl ?_); refine goesL_ (some 23) rfl rfl Try.func10 (by kernel_rfl) rfl #[.agg #[.int .i64 a0_0, .string a0_1, .int .i64 a0_2, .int .i64 a0_3, .slice A0_4 l0_4.length c0_4], .int .i64 100] rfl (by (try simp only [List.map_toArray, List.map_cons, List.map_nil]); first | done | rfl | (simp only [List.length_drop, List.length_take]; rfl)) ?_; (with_reducible refine (assessorref03_Small.calls k a0_0 a0_1 a0_2 a0_3 _ _ l0_4 100 false _ ?side1 ?side2 A8.out).mono ?_); (case side1 => repeat (first | exact (Kd.C_below HR0_4.out HB.out) | (with_reducible refine Kd.C_alloc ?_ _) | (with_reducible refine Kd.C_drewN ?_ _) | (with_reducible refine Kd.C_drew ?_))); (case side2 => exact HC0_4.out); rintro e w16 ⟨rfl, hb⟩; refine ⟨_, rfl, ?_⟩; have n0_ := Aside0.mk (blk_below (g := gb626) (o := .cells #[.int .i64 a0_0, .string a0_1, .int .i64 a0_2, .int .i64 a0_3, .slice A0_4 l0_4.length c0_4] 24 (0, 0)) (by (with_reducible repeat (first | apply blk_drewN | apply blk_drew | apply blk_alloc)); exact BK626.out) hb); have n1_ := Aside0.mk (below_step (by repeat (first | (with_reducible first | exact HB.out | apply below_alloc | apply pw_below_drewN | apply below_drew1 | refine below_set ?_ GE626.out) | exact HB.out)) hb); clear BK626; clear HB; have BK626 := n0_; have HB := n1_; clear n0_ n1_; (try clear hb); (try clear hb2); (try clear hk); (try clear hi)))
   go_meet
   case rel => exact ⟨_, (true), (by first | rfl | (simp; done) | (simp [*]; done)), H', ⟨by first | omega | exact Nat.le_refl _⟩, ⟨by (with_reducible repeat (first | apply blk_drewN | apply blk_drew | apply blk_alloc)); exact BK626.out⟩, ⟨by repeat (first | (with_reducible first | exact HB.out | apply below_alloc | apply pw_below_drewN | apply below_drew1 | refine below_set ?_ GE626.out) | exact HB.out)⟩⟩
 case rest =>
  clear HC6
  try clear c1
  try clear p2
  try clear c4
  try clear c9
  try clear c10
  try clear c10b0
  try clear c10b1
  try clear hcz11_0
  try clear hcz11_1
  try clear hcz11_2
  try clear hcz11_3
  try clear hcz11_4
  try clear hcz13_0
  try clear hcz13_1
  try clear hcz13_2
  try clear hcz13_3
  try clear hcz13_4
  try clear hcz15_0
  try clear hcz15_1
  try clear hcz15_2
  try clear hcz15_3
  try clear hcz15_4
  try clear hfz11_0
  try clear hfz11_1
  try clear hfz11_2
  try clear hfz11_3
  try clear hfz11_4
  try clear hfz13_0
  try clear hfz13_1
  try clear hfz13_2
  try clear hfz13_3
  try clear hfz13_4
  try clear hfz15_0
  try clear hfz15_1
  try clear hfz15_2
  try clear hfz15_3
  try clear hfz15_4
  obtain ⟨kq, x34_5, rfl, HA, HJ5, BK626, HB⟩ := hcut
  cases kq with
  | zero => exact absurd HA.out (by simp [assessorlaw03_TreeRestores.j0])
  | succ kj5 =>
   have H := HA.out
   clear HA
   simp only [assessorlaw03_TreeRestores.j0] at H
   by_cases c17 : x34_5 = true
   ·subst c17
    have H1 : ((assessorlaw03_awake.f kj5).bind fun t628 => (some t628)) = some r := by rw [if_pos rfl] at H; exact H
    clear H
    have H := H1
    clear H1
    replace H := Option.bind_eq_some_iff.mp H
    obtain ⟨t628, A180, H⟩ := H
    replace H : (some t628) = some r := H
    have A18 := Aside0.mk A180
    clear A180
    obtain rfl := Option.some.inj H
    go_wp2_with (first | ((with_reducible refine gate_callee (f := 11) rfl ?_); refine goesL_ (some 35) rfl rfl Try.func11 (by kernel_rfl) rfl #[] rfl (by (try simp only [List.map_toArray, List.map_cons, List.map_nil]); first | done | rfl | (simp only [List.length_drop, List.length_take]; rfl)) ?_; (with_reducible refine (assessorlaw03_awake.calls kj5  t628 _ A18.out).mono ?_); rintro e w19 ⟨rfl, hb⟩; refine ⟨_, rfl, ?_⟩; have n0_ := Aside0.mk (blk_below (g := gb626) (o := .cells #[.int .i64 a0_0, .string a0_1, .int .i64 a0_2, .int .i64 a0_3, .slice A0_4 l0_4.length c0_4] 24 (0, 0)) (by (with_reducible repeat (first | apply blk_drewN | apply blk_drew | apply blk_alloc)); exact BK626.out) hb); have n1_ := Aside0.mk (below_step (by repeat (first | (with_reducible first | exact HB.out | apply below_alloc | apply pw_below_drewN | apply below_drew1 | refine below_set ?_ GE626.out) | exact HB.out)) hb); clear BK626; clear HB; have BK626 := n0_; have HB := n1_; clear n0_ n1_; (try clear hb); (try clear hb2); (try clear hk); (try clear hi)))
    go_ret
    exact ⟨by first | rfl | (simp [errW_none, errW_some] <;> rfl) | (simp [*, errW_none, errW_some] <;> rfl) | (simp [IntKind.wrap_i64, wrap64]; done), by repeat (first | (with_reducible first | exact HB.out | apply below_alloc | apply pw_below_drewN | apply below_drew1 | refine below_set ?_ GE626.out) | exact HB.out)⟩
   ·replace c17 := Bool.eq_false_iff.mpr c17
    subst c17
    have H1 : (assessorlaw03_TreeRestores.l0 kj5 l1 a2 a3 l4 0 l4 (l4.length : Int) 0 a0_0 a0_1 a0_2 a0_3 l0_4) = some r := by rw [if_neg (show ¬ (false = true) by decide)] at H; exact H
    clear H
    have H := H1
    clear H1
    have H' := Aside0.mk H
    clear H
    go_wp2
    go_loopg [11, 38] kj5 (fun kq v11 v38 w' => ∃ (x11_2 : Int) (x38_2 : Int), v11 = .int .i64 x11_2 ∧ v38 = .int .i64 x38_2 ∧ Aside0 (assessorlaw03_TreeRestores.l0 kq l1 a2 a3 l4 x11_2 l4 (l4.length : Int) x38_2 a0_0 a0_1 a0_2 a0_3 l0_4 = some r) ∧ Aside0 (kq ≤ kj5) ∧ Aside0 (w'.heap[gb626]? = some (.cells #[.int .i64 a0_0, .string a0_1, .int .i64 a0_2, .int .i64 a0_3, (.slice A0_4 l0_4.length c0_4)] 24 (0, 0))) ∧ Aside0 (Below w.heap.size w w'))
    case atStart => exact ⟨(0), (0), (by first | rfl | (simp; done) | (simp [*]; done)), (by first | rfl | (simp; done) | (simp [*]; done)), H', ⟨Nat.le_refl _⟩, ⟨by (with_reducible repeat (first | apply blk_drewN | apply blk_drew | apply blk_alloc)); exact BK626.out⟩, ⟨by repeat (first | (with_reducible first | exact HB.out | apply below_alloc | apply pw_below_drewN | apply below_drew1 | refine below_set ?_ GE626.out) | exact HB.out)⟩⟩
    case round =>
     clear H'
     try clear c1
     try clear p2
     try clear c4
     try clear c9
     try clear c10
     try clear c10b0
     try clear c10b1
     try clear c11
     try clear c17
     try clear hcz11_0
     try clear hcz11_1
     try clear hcz11_2
     try clear hcz11_3
     try clear hcz11_4
     try clear hcz13_0
     try clear hcz13_1
     try clear hcz13_2
     try clear hcz13_3
     try clear hcz13_4
     try clear hcz15_0
     try clear hcz15_1
     try clear hcz15_2
     try clear hcz15_3
     try clear hcz15_4
     try clear hfz11_0
     try clear hfz11_1
     try clear hfz11_2
     try clear hfz11_3
     try clear hfz11_4
     try clear hfz13_0
     try clear hfz13_1
     try clear hfz13_2
     try clear hfz13_3
     try clear hfz13_4
     try clear hfz15_0
     try clear hfz15_1
     try clear hfz15_2
     try clear hfz15_3
     try clear hfz15_4
     try clear p2
     obtain ⟨x11_2, x38_2, rfl, rfl, HA, HK2, BK626, HB⟩ := hrel
     cases gk with
     | zero => exact absurd HA.out (by simp [assessorlaw03_TreeRestores.l0])
     | succ k2 =>
      have H := HA.out
      clear HA
      simp only [assessorlaw03_TreeRestores.l0] at H
      by_cases c20 : x38_2 < (l4.length : Int)
      ·rw [if_pos c20] at H
       have c20b0 : decide (x38_2 < (l4.length : Int)) = true := decide_eq_true c20
       clear c20
       by_cases c21 : 0 ≤ x38_2
       ·rw [if_pos c21] at H
        have c21b0 : decide (0 ≤ x38_2) = true := decide_eq_true c21
        clear c21
        by_cases c22 : x38_2 < (l4.length : Int)
        ·rw [if_pos c22] at H
         have c22b0 : decide (x38_2 < (l4.length : Int)) = true := decide_eq_true c22
         clear c22
         replace H := Option.bind_eq_some_iff.mp H
         obtain ⟨t631, A230, H⟩ := H
         replace H : (if t631 = true then ((assessorref03_Count.f k2 ((rd_T24 l4 x38_2).f0) ((rd_T24 l4 x38_2).f1) ((rd_T24 l4 x38_2).f2) ((rd_T24 l4 x38_2).f3) ((rd_T24 l4 x38_2).f4)).bind fun t632 => (assessorlaw03_TreeRestores.l0 k2 l1 a2 a3 l4 (wrap64 (x11_2 + t632)) l4 (l4.length : Int) (wrap64 (x38_2 + 1)) a0_0 a0_1 a0_2 a0_3 l0_4)) else ((assessorlaw03_awake.f k2).bind fun t633 => (some t633))) = some r := H
         have A23 := Aside0.mk A230
         clear A230
         by_cases c24 : t631 = true
         ·subst c24
          have H1 : ((assessorref03_Count.f k2 ((rd_T24 l4 x38_2).f0) ((rd_T24 l4 x38_2).f1) ((rd_T24 l4 x38_2).f2) ((rd_T24 l4 x38_2).f3) ((rd_T24 l4 x38_2).f4)).bind fun t632 => (assessorlaw03_TreeRestores.l0 k2 l1 a2 a3 l4 (wrap64 (x11_2 + t632)) l4 (l4.length : Int) (wrap64 (x38_2 + 1)) a0_0 a0_1 a0_2 a0_3 l0_4)) = some r := by rw [if_pos rfl] at H; exact H
          clear H
          have H := H1
          clear H1
          replace H := Option.bind_eq_some_iff.mp H
          obtain ⟨t632, A250, H⟩ := H
          replace H : (assessorlaw03_TreeRestores.l0 k2 l1 a2 a3 l4 (wrap64 (x11_2 + t632)) l4 (l4.length : Int) (wrap64 (x38_2 + 1)) a0_0 a0_1 a0_2 a0_3 l0_4) = some r := H
          have A25 := Aside0.mk A250
          clear A250
          have H' := Aside0.mk H
          clear H
          have p629 : 0 ≤ (x38_2 : Int) := of_decide_eq_true (by first | (with_reducible assumption) | assumption)
          have q629 : x38_2 < (l4.length : Int) := of_decide_eq_true (by first | (with_reducible assumption) | assumption)
          obtain ⟨ad629, A629_4, c629_4, e629, hx629_0, hx629_1, hx629_2, hx629_3, hx629_4, hl629_4, hi629_4⟩ := at_T24 HR4.out x38_2 p629 q629
          cases e629
          replace hx629_0 := (HB.out.cell (World.block_lt_of_cell? w _ hx629_0)).trans hx629_0
          replace hx629_1 := (HB.out.cell (World.block_lt_of_cell? w _ hx629_1)).trans hx629_1
          replace hx629_2 := (HB.out.cell (World.block_lt_of_cell? w _ hx629_2)).trans hx629_2
          replace hx629_3 := (HB.out.cell (World.block_lt_of_cell? w _ hx629_3)).trans hx629_3
          replace hx629_4 := (HB.out.cell (World.block_lt_of_cell? w _ hx629_4)).trans hx629_4
          have HR629_4 := Aside0.mk hi629_4
          have HC629_4 := Aside0.mk hl629_4
          clear hi629_4 hl629_4
          replace p629 := eq_true p629
          replace q629 := eq_true q629
          go_wp2_with (first | ((with_reducible refine gate_dst (N := 13) rfl ?_); (try (refine gate_guard (by rfl) ?_; dsimp only)); refine box_event ?hg (N := 13) ?hd (cs := #[.int .i64 0, .string (⟨#[]⟩ : ByteArray), .int .i64 0, .int .i64 0, .slice none 0 0]) (t := 24) ?hr ?_; (case hd => rfl); (case hg => rfl); (case hr => first | (go_simp; done) | (go_simp; rfl)); intro gb630 hg w26 hbox hb; have n0_ := Aside0.mk (blk_below (g := gb626) (o := .cells #[.int .i64 a0_0, .string a0_1, .int .i64 a0_2, .int .i64 a0_3, .slice A0_4 l0_4.length c0_4] 24 (0, 0)) (by (with_reducible repeat (first | apply blk_drewN | apply blk_drew | apply blk_alloc)); exact BK626.out) hb); have n1_ := Aside0.mk (below_step (by repeat (first | (with_reducible first | exact HB.out | apply below_alloc | apply pw_below_drewN | apply below_drew1 | refine below_set ?_ GE626.out) | exact HB.out)) hb); have n2_ := Aside0.mk (hbox); have n3_ := Aside0.mk ((by rw [hg]; exact (below_size (by repeat (first | (with_reducible first | exact HB.out | apply below_alloc | apply pw_below_drewN | apply below_drew1 | refine below_set ?_ GE626.out) | exact HB.out))) : w.heap.size ≤ gb630)); have n4_ := Aside0.mk ((by rw [hg]; exact (below_size (by repeat (first | (with_reducible first | exact HB.out | apply below_alloc | apply pw_below_drewN | apply below_drew1 | refine below_set ?_ GE626.out) | exact HB.out))) : w.heap.size ≤ gb630)); have n5_ := Aside0.mk ((by rw [hg]; exact Nat.ne_of_lt (blk_lt (g := gb626) (o := .cells #[.int .i64 a0_0, .string a0_1, .int .i64 a0_2, .int .i64 a0_3, .slice A0_4 l0_4.length c0_4] 24 (0, 0)) (by (with_reducible repeat (first | apply blk_drewN | apply blk_drew | apply blk_alloc)); exact BK626.out)) : gb626 ≠ gb630)); have n6_ := Aside0.mk ((by rw [hg]; exact Nat.ne_of_gt (blk_lt (g := gb626) (o := .cells #[.int .i64 a0_0, .string a0_1, .int .i64 a0_2, .int .i64 a0_3, .slice A0_4 l0_4.length c0_4] 24 (0, 0)) (by (with_reducible repeat (first | apply blk_drewN | apply blk_drew | apply blk_alloc)); exact BK626.out)) : gb630 ≠ gb626)); clear BK626; clear HB; have BK626 := n0_; have HB := n1_; have BK630 := n2_; have GW630 := n3_; have GE630 := n4_; have NB626_630 := n5_; have NB630_626 := n6_; clear n0_ n1_ n2_ n3_ n4_ n5_ n6_; clear hb hbox hg; have hnb27 := NB630_626.out; have hnc27 := NB626_630.out; have hcz28_0 : w26.cell? ⟨gb630, 0, none⟩ = some (.int .i64 0) := (blk_cell BK630.out 0).trans rfl; have hcz28_1 : w26.cell? ⟨gb630, 1, none⟩ = some (.string (⟨#[]⟩ : ByteArray)) := (blk_cell BK630.out 1).trans rfl; have hcz28_2 : w26.cell? ⟨gb630, 2, none⟩ = some (.int .i64 0) := (blk_cell BK630.out 2).trans rfl; have hcz28_3 : w26.cell? ⟨gb630, 3, none⟩ = some (.int .i64 0) := (blk_cell BK630.out 3).trans rfl; have hcz28_4 : w26.cell? ⟨gb630, 4, none⟩ = some (.slice none 0 0) := (blk_cell BK630.out 4).trans rfl; have hfz28_0 := blk_frozen BK630.out 0; have hfz28_1 := blk_frozen BK630.out 1; have hfz28_2 := blk_frozen BK630.out 2; have hfz28_3 := blk_frozen BK630.out 3; have hfz28_4 := blk_frozen BK630.out 4) | ((with_reducible refine gate_callee (f := 10) rfl ?_); refine goesL_ (some 43) rfl rfl Try.func10 (by kernel_rfl) rfl #[.agg #[.int .i64 ((rd_T24 l4 x38_2).f0), .string ((rd_T24 l4 x38_2).f1), .int .i64 ((rd_T24 l4 x38_2).f2), .int .i64 ((rd_T24 l4 x38_2).f3), .slice A629_4 ((rd_T24 l4 x38_2).f4).length c629_4], .int .i64 30] rfl (by (try simp only [List.map_toArray, List.map_cons, List.map_nil]); first | done | rfl | (simp only [List.length_drop, List.length_take]; rfl)) ?_; (with_reducible refine (assessorref03_Small.calls k2 ((rd_T24 l4 x38_2).f0) ((rd_T24 l4 x38_2).f1) ((rd_T24 l4 x38_2).f2) ((rd_T24 l4 x38_2).f3) _ _ ((rd_T24 l4 x38_2).f4) 30 true _ ?side1 ?side2 A23.out).mono ?_); (case side1 => exact Kd.C_below HR629_4.out (by repeat (first | (with_reducible first | exact HB.out | apply below_alloc | apply pw_below_drewN | apply below_drew1 | refine below_set ?_ GE626.out | refine below_set ?_ GE630.out) | exact HB.out))); (case side2 => exact HC629_4.out); rintro e w29 ⟨rfl, hb⟩; refine ⟨_, rfl, ?_⟩; have n0_ := Aside0.mk (blk_below (g := gb626) (o := .cells #[.int .i64 a0_0, .string a0_1, .int .i64 a0_2, .int .i64 a0_3, .slice A0_4 l0_4.length c0_4] 24 (0, 0)) (by (with_reducible repeat (first | apply blk_drewN | apply blk_drew | apply blk_alloc)); refine blk_far ?_ NB626_630.out _; (with_reducible repeat (first | apply blk_drewN | apply blk_drew | apply blk_alloc)); refine blk_far ?_ NB626_630.out _; (with_reducible repeat (first | apply blk_drewN | apply blk_drew | apply blk_alloc)); refine blk_far ?_ NB626_630.out _; (with_reducible repeat (first | apply blk_drewN | apply blk_drew | apply blk_alloc)); refine blk_far ?_ NB626_630.out _; (with_reducible repeat (first | apply blk_drewN | apply blk_drew | apply blk_alloc)); refine blk_far ?_ NB626_630.out _; (with_reducible repeat (first | apply blk_drewN | apply blk_drew | apply blk_alloc)); exact BK626.out) hb); have n1_ := Aside0.mk (blk_below (g := gb630) (o := .cells #[.int .i64 ((rd_T24 l4 x38_2).f0), .string ((rd_T24 l4 x38_2).f1), .int .i64 ((rd_T24 l4 x38_2).f2), .int .i64 ((rd_T24 l4 x38_2).f3), .slice A629_4 ((rd_T24 l4 x38_2).f4).length c629_4] 24 (0, 0)) (by (with_reducible repeat (first | apply blk_drewN | apply blk_drew | apply blk_alloc)); refine blk_put (cs := #[.int .i64 ((rd_T24 l4 x38_2).f0), .string ((rd_T24 l4 x38_2).f1), .int .i64 ((rd_T24 l4 x38_2).f2), .int .i64 ((rd_T24 l4 x38_2).f3), .slice none 0 0]) ?_ 4 _ rfl; (with_reducible repeat (first | apply blk_drewN | apply blk_drew | apply blk_alloc)); refine blk_put (cs := #[.int .i64 ((rd_T24 l4 x38_2).f0), .string ((rd_T24 l4 x38_2).f1), .int .i64 ((rd_T24 l4 x38_2).f2), .int .i64 0, .slice none 0 0]) ?_ 3 _ rfl; (with_reducible repeat (first | apply blk_drewN | apply blk_drew | apply blk_alloc)); refine blk_put (cs := #[.int .i64 ((rd_T24 l4 x38_2).f0), .string ((rd_T24 l4 x38_2).f1), .int .i64 0, .int .i64 0, .slice none 0 0]) ?_ 2 _ rfl; (with_reducible repeat (first | apply blk_drewN | apply blk_drew | apply blk_alloc)); refine blk_put (cs := #[.int .i64 ((rd_T24 l4 x38_2).f0), .string (⟨#[]⟩ : ByteArray), .int .i64 0, .int .i64 0, .slice none 0 0]) ?_ 1 _ rfl; (with_reducible repeat (first | apply blk_drewN | apply blk_drew | apply blk_alloc)); refine blk_put (cs := #[.int .i64 0, .string (⟨#[]⟩ : ByteArray), .int .i64 0, .int .i64 0, .slice none 0 0]) ?_ 0 _ rfl; (with_reducible repeat (first | apply blk_drewN | apply blk_drew | apply blk_alloc)); exact BK630.out) hb); have n2_ := Aside0.mk (below_step (by repeat (first | (with_reducible first | exact HB.out | apply below_alloc | apply pw_below_drewN | apply below_drew1 | refine below_set ?_ GE626.out | refine below_set ?_ GE630.out) | exact HB.out)) hb); clear BK626; clear BK630; clear HB; have BK626 := n0_; have BK630 := n1_; have HB := n2_; clear n0_ n1_ n2_; (try clear hb); (try clear hb2); (try clear hk); (try clear hi); have hcz30_0 : w29.cell? ⟨gb630, 0, none⟩ = some (.int .i64 ((rd_T24 l4 x38_2).f0)) := (blk_cell BK630.out 0).trans rfl; have hcz30_1 : w29.cell? ⟨gb630, 1, none⟩ = some (.string ((rd_T24 l4 x38_2).f1)) := (blk_cell BK630.out 1).trans rfl; have hcz30_2 : w29.cell? ⟨gb630, 2, none⟩ = some (.int .i64 ((rd_T24 l4 x38_2).f2)) := (blk_cell BK630.out 2).trans rfl; have hcz30_3 : w29.cell? ⟨gb630, 3, none⟩ = some (.int .i64 ((rd_T24 l4 x38_2).f3)) := (blk_cell BK630.out 3).trans rfl; have hcz30_4 : w29.cell? ⟨gb630, 4, none⟩ = some (.slice A629_4 ((rd_T24 l4 x38_2).f4).length c629_4) := (blk_cell BK630.out 4).trans rfl; have hfz30_0 := blk_frozen BK630.out 0; have hfz30_1 := blk_frozen BK630.out 1; have hfz30_2 := blk_frozen BK630.out 2; have hfz30_3 := blk_frozen BK630.out 3; have hfz30_4 := blk_frozen BK630.out 4) | ((with_reducible refine gate_callee (f := 32) rfl ?_); refine goesL_ (some 48) rfl rfl Try.func32 (by kernel_rfl) rfl #[.agg #[.int .i64 ((rd_T24 l4 x38_2).f0), .string ((rd_T24 l4 x38_2).f1), .int .i64 ((rd_T24 l4 x38_2).f2), .int .i64 ((rd_T24 l4 x38_2).f3), .slice A629_4 ((rd_T24 l4 x38_2).f4).length c629_4]] rfl (by (try simp only [List.map_toArray, List.map_cons, List.map_nil]); first | done | rfl | (simp only [List.length_drop, List.length_take]; rfl)) ?_; (with_reducible refine (assessorref03_Count.calls k2 ((rd_T24 l4 x38_2).f0) ((rd_T24 l4 x38_2).f1) ((rd_T24 l4 x38_2).f2) ((rd_T24 l4 x38_2).f3) _ _ ((rd_T24 l4 x38_2).f4) t632 _ ?side1 ?side2 A25.out).mono ?_); (case side1 => repeat (first | exact (Kd.C_below HR629_4.out HB.out) | (with_reducible refine Kd.C_alloc ?_ _) | (with_reducible refine Kd.C_drewN ?_ _) | (with_reducible refine Kd.C_drew ?_))); (case side2 => exact HC629_4.out); rintro e w31 ⟨rfl, hb⟩; refine ⟨_, rfl, ?_⟩; have n0_ := Aside0.mk (blk_below (g := gb626) (o := .cells #[.int .i64 a0_0, .string a0_1, .int .i64 a0_2, .int .i64 a0_3, .slice A0_4 l0_4.length c0_4] 24 (0, 0)) (by (with_reducible repeat (first | apply blk_drewN | apply blk_drew | apply blk_alloc)); exact BK626.out) hb); have n1_ := Aside0.mk (blk_below (g := gb630) (o := .cells #[.int .i64 ((rd_T24 l4 x38_2).f0), .string ((rd_T24 l4 x38_2).f1), .int .i64 ((rd_T24 l4 x38_2).f2), .int .i64 ((rd_T24 l4 x38_2).f3), .slice A629_4 ((rd_T24 l4 x38_2).f4).length c629_4] 24 (0, 0)) (by (with_reducible repeat (first | apply blk_drewN | apply blk_drew | apply blk_alloc)); exact BK630.out) hb); have n2_ := Aside0.mk (below_step (by repeat (first | (with_reducible first | exact HB.out | apply below_alloc | apply pw_below_drewN | apply below_drew1 | refine below_set ?_ GE626.out | refine below_set ?_ GE630.out) | exact HB.out)) hb); clear BK626; clear BK630; clear HB; have BK626 := n0_; have BK630 := n1_; have HB := n2_; clear n0_ n1_ n2_; (try clear hb); (try clear hb2); (try clear hk); (try clear hi)))
          go_roundg k2
          case measure => have := HJ5.out; have := HK2.out; omega
          case rel => exact ⟨(wrap64 (x11_2 + t632)), (wrap64 (x38_2 + 1)), (by first | rfl | (simp; done) | (simp [*]; done)), (by first | rfl | (simp; done) | (simp [*]; done)), H', ⟨by have := HJ5.out; have := HK2.out; omega⟩, ⟨by (with_reducible repeat (first | apply blk_drewN | apply blk_drew | apply blk_alloc)); exact BK626.out⟩, ⟨by repeat (first | (with_reducible first | exact HB.out | apply below_alloc | apply pw_below_drewN | apply below_drew1 | refine below_set ?_ GE626.out | refine below_set ?_ GE630.out) | exact HB.out)⟩⟩
         ·replace c24 := Bool.eq_false_iff.mpr c24
          subst c24
          have H1 : ((assessorlaw03_awake.f k2).bind fun t633 => (some t633)) = some r := by rw [if_neg (show ¬ (false = true) by decide)] at H; exact H
          clear H
          have H := H1
          clear H1
          replace H := Option.bind_eq_some_iff.mp H
          obtain ⟨t633, A320, H⟩ := H
          replace H : (some t633) = some r := H
          have A32 := Aside0.mk A320
          clear A320
          obtain rfl := Option.some.inj H
          have p629 : 0 ≤ (x38_2 : Int) := of_decide_eq_true (by first | (with_reducible assumption) | assumption)
          have q629 : x38_2 < (l4.length : Int) := of_decide_eq_true (by first | (with_reducible assumption) | assumption)
          obtain ⟨ad629, A629_4, c629_4, e629, hx629_0, hx629_1, hx629_2, hx629_3, hx629_4, hl629_4, hi629_4⟩ := at_T24 HR4.out x38_2 p629 q629
          cases e629
          replace hx629_0 := (HB.out.cell (World.block_lt_of_cell? w _ hx629_0)).trans hx629_0
          replace hx629_1 := (HB.out.cell (World.block_lt_of_cell? w _ hx629_1)).trans hx629_1
          replace hx629_2 := (HB.out.cell (World.block_lt_of_cell? w _ hx629_2)).trans hx629_2
          replace hx629_3 := (HB.out.cell (World.block_lt_of_cell? w _ hx629_3)).trans hx629_3
          replace hx629_4 := (HB.out.cell (World.block_lt_of_cell? w _ hx629_4)).trans hx629_4
          have HR629_4 := Aside0.mk hi629_4
          have HC629_4 := Aside0.mk hl629_4
          clear hi629_4 hl629_4
          replace p629 := eq_true p629
          replace q629 := eq_true q629
          go_wp2_with (first | ((with_reducible refine gate_dst (N := 13) rfl ?_); (try (refine gate_guard (by rfl) ?_; dsimp only)); refine box_event ?hg (N := 13) ?hd (cs := #[.int .i64 0, .string (⟨#[]⟩ : ByteArray), .int .i64 0, .int .i64 0, .slice none 0 0]) (t := 24) ?hr ?_; (case hd => rfl); (case hg => rfl); (case hr => first | (go_simp; done) | (go_simp; rfl)); intro gb630 hg w33 hbox hb; have n0_ := Aside0.mk (blk_below (g := gb626) (o := .cells #[.int .i64 a0_0, .string a0_1, .int .i64 a0_2, .int .i64 a0_3, .slice A0_4 l0_4.length c0_4] 24 (0, 0)) (by (with_reducible repeat (first | apply blk_drewN | apply blk_drew | apply blk_alloc)); exact BK626.out) hb); have n1_ := Aside0.mk (below_step (by repeat (first | (with_reducible first | exact HB.out | apply below_alloc | apply pw_below_drewN | apply below_drew1 | refine below_set ?_ GE626.out) | exact HB.out)) hb); have n2_ := Aside0.mk (hbox); have n3_ := Aside0.mk ((by rw [hg]; exact (below_size (by repeat (first | (with_reducible first | exact HB.out | apply below_alloc | apply pw_below_drewN | apply below_drew1 | refine below_set ?_ GE626.out) | exact HB.out))) : w.heap.size ≤ gb630)); have n4_ := Aside0.mk ((by rw [hg]; exact (below_size (by repeat (first | (with_reducible first | exact HB.out | apply below_alloc | apply pw_below_drewN | apply below_drew1 | refine below_set ?_ GE626.out) | exact HB.out))) : w.heap.size ≤ gb630)); have n5_ := Aside0.mk ((by rw [hg]; exact Nat.ne_of_lt (blk_lt (g := gb626) (o := .cells #[.int .i64 a0_0, .string a0_1, .int .i64 a0_2, .int .i64 a0_3, .slice A0_4 l0_4.length c0_4] 24 (0, 0)) (by (with_reducible repeat (first | apply blk_drewN | apply blk_drew | apply blk_alloc)); exact BK626.out)) : gb626 ≠ gb630)); have n6_ := Aside0.mk ((by rw [hg]; exact Nat.ne_of_gt (blk_lt (g := gb626) (o := .cells #[.int .i64 a0_0, .string a0_1, .int .i64 a0_2, .int .i64 a0_3, .slice A0_4 l0_4.length c0_4] 24 (0, 0)) (by (with_reducible repeat (first | apply blk_drewN | apply blk_drew | apply blk_alloc)); exact BK626.out)) : gb630 ≠ gb626)); clear BK626; clear HB; have BK626 := n0_; have HB := n1_; have BK630 := n2_; have GW630 := n3_; have GE630 := n4_; have NB626_630 := n5_; have NB630_626 := n6_; clear n0_ n1_ n2_ n3_ n4_ n5_ n6_; clear hb hbox hg; have hnb34 := NB630_626.out; have hnc34 := NB626_630.out; have hcz35_0 : w33.cell? ⟨gb630, 0, none⟩ = some (.int .i64 0) := (blk_cell BK630.out 0).trans rfl; have hcz35_1 : w33.cell? ⟨gb630, 1, none⟩ = some (.string (⟨#[]⟩ : ByteArray)) := (blk_cell BK630.out 1).trans rfl; have hcz35_2 : w33.cell? ⟨gb630, 2, none⟩ = some (.int .i64 0) := (blk_cell BK630.out 2).trans rfl; have hcz35_3 : w33.cell? ⟨gb630, 3, none⟩ = some (.int .i64 0) := (blk_cell BK630.out 3).trans rfl; have hcz35_4 : w33.cell? ⟨gb630, 4, none⟩ = some (.slice none 0 0) := (blk_cell BK630.out 4).trans rfl; have hfz35_0 := blk_frozen BK630.out 0; have hfz35_1 := blk_frozen BK630.out 1; have hfz35_2 := blk_frozen BK630.out 2; have hfz35_3 := blk_frozen BK630.out 3; have hfz35_4 := blk_frozen BK630.out 4) | ((with_reducible refine gate_callee (f := 10) rfl ?_); refine goesL_ (some 43) rfl rfl Try.func10 (by kernel_rfl) rfl #[.agg #[.int .i64 ((rd_T24 l4 x38_2).f0), .string ((rd_T24 l4 x38_2).f1), .int .i64 ((rd_T24 l4 x38_2).f2), .int .i64 ((rd_T24 l4 x38_2).f3), .slice A629_4 ((rd_T24 l4 x38_2).f4).length c629_4], .int .i64 30] rfl (by (try simp only [List.map_toArray, List.map_cons, List.map_nil]); first | done | rfl | (simp only [List.length_drop, List.length_take]; rfl)) ?_; (with_reducible refine (assessorref03_Small.calls k2 ((rd_T24 l4 x38_2).f0) ((rd_T24 l4 x38_2).f1) ((rd_T24 l4 x38_2).f2) ((rd_T24 l4 x38_2).f3) _ _ ((rd_T24 l4 x38_2).f4) 30 false _ ?side1 ?side2 A23.out).mono ?_); (case side1 => exact Kd.C_below HR629_4.out (by repeat (first | (with_reducible first | exact HB.out | apply below_alloc | apply pw_below_drewN | apply below_drew1 | refine below_set ?_ GE626.out | refine below_set ?_ GE630.out) | exact HB.out))); (case side2 => exact HC629_4.out); rintro e w36 ⟨rfl, hb⟩; refine ⟨_, rfl, ?_⟩; have n0_ := Aside0.mk (blk_below (g := gb626) (o := .cells #[.int .i64 a0_0, .string a0_1, .int .i64 a0_2, .int .i64 a0_3, .slice A0_4 l0_4.length c0_4] 24 (0, 0)) (by (with_reducible repeat (first | apply blk_drewN | apply blk_drew | apply blk_alloc)); refine blk_far ?_ NB626_630.out _; (with_reducible repeat (first | apply blk_drewN | apply blk_drew | apply blk_alloc)); refine blk_far ?_ NB626_630.out _; (with_reducible repeat (first | apply blk_drewN | apply blk_drew | apply blk_alloc)); refine blk_far ?_ NB626_630.out _; (with_reducible repeat (first | apply blk_drewN | apply blk_drew | apply blk_alloc)); refine blk_far ?_ NB626_630.out _; (with_reducible repeat (first | apply blk_drewN | apply blk_drew | apply blk_alloc)); refine blk_far ?_ NB626_630.out _; (with_reducible repeat (first | apply blk_drewN | apply blk_drew | apply blk_alloc)); exact BK626.out) hb); have n1_ := Aside0.mk (blk_below (g := gb630) (o := .cells #[.int .i64 ((rd_T24 l4 x38_2).f0), .string ((rd_T24 l4 x38_2).f1), .int .i64 ((rd_T24 l4 x38_2).f2), .int .i64 ((rd_T24 l4 x38_2).f3), .slice A629_4 ((rd_T24 l4 x38_2).f4).length c629_4] 24 (0, 0)) (by (with_reducible repeat (first | apply blk_drewN | apply blk_drew | apply blk_alloc)); refine blk_put (cs := #[.int .i64 ((rd_T24 l4 x38_2).f0), .string ((rd_T24 l4 x38_2).f1), .int .i64 ((rd_T24 l4 x38_2).f2), .int .i64 ((rd_T24 l4 x38_2).f3), .slice none 0 0]) ?_ 4 _ rfl; (with_reducible repeat (first | apply blk_drewN | apply blk_drew | apply blk_alloc)); refine blk_put (cs := #[.int .i64 ((rd_T24 l4 x38_2).f0), .string ((rd_T24 l4 x38_2).f1), .int .i64 ((rd_T24 l4 x38_2).f2), .int .i64 0, .slice none 0 0]) ?_ 3 _ rfl; (with_reducible repeat (first | apply blk_drewN | apply blk_drew | apply blk_alloc)); refine blk_put (cs := #[.int .i64 ((rd_T24 l4 x38_2).f0), .string ((rd_T24 l4 x38_2).f1), .int .i64 0, .int .i64 0, .slice none 0 0]) ?_ 2 _ rfl; (with_reducible repeat (first | apply blk_drewN | apply blk_drew | apply blk_alloc)); refine blk_put (cs := #[.int .i64 ((rd_T24 l4 x38_2).f0), .string (⟨#[]⟩ : ByteArray), .int .i64 0, .int .i64 0, .slice none 0 0]) ?_ 1 _ rfl; (with_reducible repeat (first | apply blk_drewN | apply blk_drew | apply blk_alloc)); refine blk_put (cs := #[.int .i64 0, .string (⟨#[]⟩ : ByteArray), .int .i64 0, .int .i64 0, .slice none 0 0]) ?_ 0 _ rfl; (with_reducible repeat (first | apply blk_drewN | apply blk_drew | apply blk_alloc)); exact BK630.out) hb); have n2_ := Aside0.mk (below_step (by repeat (first | (with_reducible first | exact HB.out | apply below_alloc | apply pw_below_drewN | apply below_drew1 | refine below_set ?_ GE626.out | refine below_set ?_ GE630.out) | exact HB.out)) hb); clear BK626; clear BK630; clear HB; have BK626 := n0_; have BK630 := n1_; have HB := n2_; clear n0_ n1_ n2_; (try clear hb); (try clear hb2); (try clear hk); (try clear hi)) | ((with_reducible refine gate_callee (f := 11) rfl ?_); refine goesL_ (some 45) rfl rfl Try.func11 (by kernel_rfl) rfl #[] rfl (by (try simp only [List.map_toArray, List.map_cons, List.map_nil]); first | done | rfl | (simp only [List.length_drop, List.length_take]; rfl)) ?_; (with_reducible refine (assessorlaw03_awake.calls k2  t633 _ A32.out).mono ?_); rintro e w37 ⟨rfl, hb⟩; refine ⟨_, rfl, ?_⟩; have n0_ := Aside0.mk (blk_below (g := gb626) (o := .cells #[.int .i64 a0_0, .string a0_1, .int .i64 a0_2, .int .i64 a0_3, .slice A0_4 l0_4.length c0_4] 24 (0, 0)) (by (with_reducible repeat (first | apply blk_drewN | apply blk_drew | apply blk_alloc)); exact BK626.out) hb); have n1_ := Aside0.mk (blk_below (g := gb630) (o := .cells #[.int .i64 ((rd_T24 l4 x38_2).f0), .string ((rd_T24 l4 x38_2).f1), .int .i64 ((rd_T24 l4 x38_2).f2), .int .i64 ((rd_T24 l4 x38_2).f3), .slice A629_4 ((rd_T24 l4 x38_2).f4).length c629_4] 24 (0, 0)) (by (with_reducible repeat (first | apply blk_drewN | apply blk_drew | apply blk_alloc)); exact BK630.out) hb); have n2_ := Aside0.mk (below_step (by repeat (first | (with_reducible first | exact HB.out | apply below_alloc | apply pw_below_drewN | apply below_drew1 | refine below_set ?_ GE626.out | refine below_set ?_ GE630.out) | exact HB.out)) hb); clear BK626; clear BK630; clear HB; have BK626 := n0_; have BK630 := n1_; have HB := n2_; clear n0_ n1_ n2_; (try clear hb); (try clear hb2); (try clear hk); (try clear hi)))
          go_ret
          exact ⟨by first | rfl | (simp [errW_none, errW_some] <;> rfl) | (simp [*, errW_none, errW_some] <;> rfl) | (simp [IntKind.wrap_i64, wrap64]; done), by repeat (first | (with_reducible first | exact HB.out | apply below_alloc | apply pw_below_drewN | apply below_drew1 | refine below_set ?_ GE626.out | refine below_set ?_ GE630.out) | exact HB.out)⟩
        ·rw [if_neg c22] at H
         exact absurd H (by simp)
       ·rw [if_neg c21] at H
        exact absurd H (by simp)
      ·rw [if_neg c20] at H
       have c20b0 : decide (x38_2 < (l4.length : Int)) = false := decide_eq_false c20
       clear c20
       replace H := Option.bind_eq_some_iff.mp H
       obtain ⟨⟨t634, t635, t636, t637, t638, t641⟩, A380, H⟩ := H
       replace H : (if t641 = 0 then ((tree_Get.f k2 a0_0 a0_1 a0_2 a0_3 l0_4 l1).bind fun bt644 => (if bt644.2.2.2.2.2 = true then (if a2 < 0 then (assessorlaw03_TreeRestores.j2 k2 l1 a2 a3 l4 x11_2 true a0_0 a0_1 a0_2 a0_3 l0_4 t634 t635 t636 t637 t638 bt644.1 bt644.2.1 bt644.2.2.1 bt644.2.2.2.1 bt644.2.2.2.2.1) else (if a2 > a3 then (assessorlaw03_TreeRestores.j2 k2 l1 a2 a3 l4 x11_2 true a0_0 a0_1 a0_2 a0_3 l0_4 t634 t635 t636 t637 t638 bt644.1 bt644.2.1 bt644.2.2.1 bt644.2.2.2.1 bt644.2.2.2.2.1) else (assessorlaw03_TreeRestores.j2 k2 l1 a2 a3 l4 x11_2 (decide (a3 > (bt644.2.2.2.2.1.length : Int))) a0_0 a0_1 a0_2 a0_3 l0_4 t634 t635 t636 t637 t638 bt644.1 bt644.2.1 bt644.2.2.1 bt644.2.2.2.1 bt644.2.2.2.2.1))) else (assessorlaw03_TreeRestores.j2 k2 l1 a2 a3 l4 x11_2 true a0_0 a0_1 a0_2 a0_3 l0_4 t634 t635 t636 t637 t638 bt644.1 bt644.2.1 bt644.2.2.1 bt644.2.2.2.1 bt644.2.2.2.2.1))) else ((assessorlaw03_awake.f k2).bind fun t643 => (some t643))) = some r := H
       have A38 := Aside0.mk A380
       clear A380
       by_cases c39 : t641 = 0
       ·rw [if_pos c39] at H
        have c39b0 : (t641 == 0) = true := beq_iff_eq.mpr c39
        have c39b1 : (t641 != 0) = false := bne_eq_false_iff_eq.mpr c39
        clear c39
        replace H := Option.bind_eq_some_iff.mp H
        obtain ⟨⟨t644, t645, t646, t647, t648, t651⟩, A400, H⟩ := H
        replace H : (if t651 = true then (if a2 < 0 then (assessorlaw03_TreeRestores.j2 k2 l1 a2 a3 l4 x11_2 true a0_0 a0_1 a0_2 a0_3 l0_4 t634 t635 t636 t637 t638 t644 t645 t646 t647 t648) else (if a2 > a3 then (assessorlaw03_TreeRestores.j2 k2 l1 a2 a3 l4 x11_2 true a0_0 a0_1 a0_2 a0_3 l0_4 t634 t635 t636 t637 t638 t644 t645 t646 t647 t648) else (assessorlaw03_TreeRestores.j2 k2 l1 a2 a3 l4 x11_2 (decide (a3 > (t648.length : Int))) a0_0 a0_1 a0_2 a0_3 l0_4 t634 t635 t636 t637 t638 t644 t645 t646 t647 t648))) else (assessorlaw03_TreeRestores.j2 k2 l1 a2 a3 l4 x11_2 true a0_0 a0_1 a0_2 a0_3 l0_4 t634 t635 t636 t637 t638 t644 t645 t646 t647 t648)) = some r := H
        have A40 := Aside0.mk A400
        clear A400
        have HC41 := Aside0.mk H
        clear H
        have hcz42_0 : wr.cell? ⟨gb626, 0, none⟩ = some (.int .i64 a0_0) := (blk_cell BK626.out 0).trans rfl
        have hcz42_1 : wr.cell? ⟨gb626, 1, none⟩ = some (.string a0_1) := (blk_cell BK626.out 1).trans rfl
        have hcz42_2 : wr.cell? ⟨gb626, 2, none⟩ = some (.int .i64 a0_2) := (blk_cell BK626.out 2).trans rfl
        have hcz42_3 : wr.cell? ⟨gb626, 3, none⟩ = some (.int .i64 a0_3) := (blk_cell BK626.out 3).trans rfl
        have hcz42_4 : wr.cell? ⟨gb626, 4, none⟩ = some (.slice A0_4 l0_4.length c0_4) := (blk_cell BK626.out 4).trans rfl
        have hfz42_0 := blk_frozen BK626.out 0
        have hfz42_1 := blk_frozen BK626.out 1
        have hfz42_2 := blk_frozen BK626.out 2
        have hfz42_3 := blk_frozen BK626.out 3
        have hfz42_4 := blk_frozen BK626.out 4
        go_upto_region 15 with (first | ((with_reducible refine gate_callee (f := 37) rfl ?_); refine goesL_ (some 57) rfl rfl Try.func37 (by kernel_rfl) rfl #[.agg #[.int .i64 a0_0, .string a0_1, .int .i64 a0_2, .int .i64 a0_3, .slice A0_4 l0_4.length c0_4], .slice A1 l1.length c1, .int .i64 a2, .int .i64 a3, .slice A4 l4.length c4] rfl (by (try simp only [List.map_toArray, List.map_cons, List.map_nil]); first | done | rfl | (simp only [List.length_drop, List.length_take]; rfl)) ?_; (with_reducible refine (tree_Replace.calls k2 a0_0 a0_1 a0_2 a0_3 _ _ l0_4 _ _ l1 a2 a3 _ _ l4 t634 t635 t636 t637 t638 t641 _ ?side1 ?side2 ?side3 ?side4 ?side5 ?side6 A38.out).mono ?_); (case side1 => repeat (first | exact (Kd.C_below HR0_4.out HB.out) | (with_reducible refine Kd.C_alloc ?_ _) | (with_reducible refine Kd.C_drewN ?_ _) | (with_reducible refine Kd.C_drew ?_))); (case side2 => exact HC0_4.out); (case side3 => repeat (first | exact (Kd.C_below HR1.out HB.out) | (with_reducible refine Kd.C_alloc ?_ _) | (with_reducible refine Kd.C_drewN ?_ _) | (with_reducible refine Kd.C_drew ?_))); (case side4 => exact HC1.out); (case side5 => repeat (first | exact (Kd.C_below HR4.out HB.out) | (with_reducible refine Kd.C_alloc ?_ _) | (with_reducible refine Kd.C_drewN ?_ _) | (with_reducible refine Kd.C_drew ?_))); (case side6 => exact HC4.out); rintro e w43 ⟨v639, rfl, ho0, hb⟩; refine ⟨_, rfl, ?_⟩; have n0_ := Aside0.mk (Kd.R_lower (Kd.R_newB ho0 (g := gb626) (o := .cells #[.int .i64 a0_0, .string a0_1, .int .i64 a0_2, .int .i64 a0_3, .slice A0_4 l0_4.length c0_4] 24 (0, 0)) (by (with_reducible repeat (first | apply blk_drewN | apply blk_drew | apply blk_alloc)); exact BK626.out)) (below_size (by repeat (first | (with_reducible first | exact HB.out | apply below_alloc | apply pw_below_drewN | apply below_drew1 | refine below_set ?_ GE626.out) | exact HB.out)))); have n1_ := Aside0.mk (blk_below (g := gb626) (o := .cells #[.int .i64 a0_0, .string a0_1, .int .i64 a0_2, .int .i64 a0_3, .slice A0_4 l0_4.length c0_4] 24 (0, 0)) (by (with_reducible repeat (first | apply blk_drewN | apply blk_drew | apply blk_alloc)); exact BK626.out) hb); have n2_ := Aside0.mk (below_step (by repeat (first | (with_reducible first | exact HB.out | apply below_alloc | apply pw_below_drewN | apply below_drew1 | refine below_set ?_ GE626.out) | exact HB.out)) hb); clear BK626; clear HB; have HO640 := n0_; have BK626 := n1_; have HB := n2_; clear n0_ n1_ n2_; (try clear hb); (try clear hb2); (try clear hk); (try clear hi); (try clear ho0)) | ((with_reducible refine gate_dst (N := 14) rfl ?_); (try (refine gate_guard (by rfl) ?_; dsimp only)); refine box_event ?hg (N := 14) ?hd (cs := #[.int .i64 0, .string (⟨#[]⟩ : ByteArray), .int .i64 0, .int .i64 0, .slice none 0 0]) (t := 24) ?hr ?_; (case hd => rfl); (case hg => rfl); (case hr => first | (go_simp; done) | (go_simp; rfl)); intro gb642 hg w44 hbox hb; have n0_ := Aside0.mk (Kd.R_below (Kd.R_elderB (by (with_reducible repeat (first | apply Kd.R_alloc | apply Kd.R_drewN | apply Kd.R_drew)); exact HO640.out) gb642 (Nat.le_of_eq hg.symm)) hb); have n1_ := Aside0.mk (blk_below (g := gb626) (o := .cells #[.int .i64 a0_0, .string a0_1, .int .i64 a0_2, .int .i64 a0_3, .slice A0_4 l0_4.length c0_4] 24 (0, 0)) (by (with_reducible repeat (first | apply blk_drewN | apply blk_drew | apply blk_alloc)); exact BK626.out) hb); have n2_ := Aside0.mk (below_step (by repeat (first | (with_reducible first | exact HB.out | apply below_alloc | apply pw_below_drewN | apply below_drew1 | refine below_set ?_ GE626.out) | exact HB.out)) hb); have n3_ := Aside0.mk (hbox); have n4_ := Aside0.mk ((by rw [hg]; exact (below_size (by repeat (first | (with_reducible first | exact HB.out | apply below_alloc | apply pw_below_drewN | apply below_drew1 | refine below_set ?_ GE626.out) | exact HB.out))) : w.heap.size ≤ gb642)); have n5_ := Aside0.mk ((by rw [hg]; exact (below_size (by repeat (first | (with_reducible first | exact HB.out | apply below_alloc | apply pw_below_drewN | apply below_drew1 | refine below_set ?_ GE626.out) | exact HB.out))) : w.heap.size ≤ gb642)); have n6_ := Aside0.mk ((by rw [hg]; exact Nat.ne_of_lt (blk_lt (g := gb626) (o := .cells #[.int .i64 a0_0, .string a0_1, .int .i64 a0_2, .int .i64 a0_3, .slice A0_4 l0_4.length c0_4] 24 (0, 0)) (by (with_reducible repeat (first | apply blk_drewN | apply blk_drew | apply blk_alloc)); exact BK626.out)) : gb626 ≠ gb642)); have n7_ := Aside0.mk ((by rw [hg]; exact Nat.ne_of_gt (blk_lt (g := gb626) (o := .cells #[.int .i64 a0_0, .string a0_1, .int .i64 a0_2, .int .i64 a0_3, .slice A0_4 l0_4.length c0_4] 24 (0, 0)) (by (with_reducible repeat (first | apply blk_drewN | apply blk_drew | apply blk_alloc)); exact BK626.out)) : gb642 ≠ gb626)); clear HO640; clear BK626; clear HB; have HO640 := n0_; have BK626 := n1_; have HB := n2_; have BK642 := n3_; have GW642 := n4_; have GE642 := n5_; have NB626_642 := n6_; have NB642_626 := n7_; clear n0_ n1_ n2_ n3_ n4_ n5_ n6_ n7_; clear hb hbox hg; have hnb45 := NB642_626.out; have hnc45 := NB626_642.out; have hcz46_0 : w44.cell? ⟨gb642, 0, none⟩ = some (.int .i64 0) := (blk_cell BK642.out 0).trans rfl; have hcz46_1 : w44.cell? ⟨gb642, 1, none⟩ = some (.string (⟨#[]⟩ : ByteArray)) := (blk_cell BK642.out 1).trans rfl; have hcz46_2 : w44.cell? ⟨gb642, 2, none⟩ = some (.int .i64 0) := (blk_cell BK642.out 2).trans rfl; have hcz46_3 : w44.cell? ⟨gb642, 3, none⟩ = some (.int .i64 0) := (blk_cell BK642.out 3).trans rfl; have hcz46_4 : w44.cell? ⟨gb642, 4, none⟩ = some (.slice none 0 0) := (blk_cell BK642.out 4).trans rfl; have hfz46_0 := blk_frozen BK642.out 0; have hfz46_1 := blk_frozen BK642.out 1; have hfz46_2 := blk_frozen BK642.out 2; have hfz46_3 := blk_frozen BK642.out 3; have hfz46_4 := blk_frozen BK642.out 4; obtain ⟨Ao47, co47, eo47⟩ := Kd.R_slice HO640.out; subst eo47) | ((with_reducible refine gate_store (t := 24) (p := 14) rfl ?_); refine store_event (t := 24) (p := 14) (v := ?vo_w48) (w1 := (((((w44.setCell ⟨gb642, 0, none⟩ (.int .i64 t634)).setCell ⟨gb642, 1, none⟩ (.string t635)).setCell ⟨gb642, 2, none⟩ (.int .i64 t636)).setCell ⟨gb642, 3, none⟩ (.int .i64 t637)).setCell ⟨gb642, 4, none⟩ (.slice Ao47 t638.length co47))) ?hg ?ho ?hn ?hr ?_; (case ho => rfl); (case hg => rfl); (case hn => rfl); (case hr => first | (go_simp; done) | (go_simp; rfl)); intro w48 hw; have n0_ : Aside0 (Kd.R k24 24 w48 w.heap.size (fun k_ => k_ ≠ gb626 ∧ k_ ≠ gb642) (.slice Ao47 t638.length co47) t638) := ⟨(by rw [hw]; exact (by (with_reducible repeat (first | apply Kd.R_alloc | apply Kd.R_drewN | apply Kd.R_drew)); exact Kd.R_mono (Kd.R_far (p := ⟨gb642, 4, none⟩) (Kd.R_far (p := ⟨gb642, 3, none⟩) (Kd.R_far (p := ⟨gb642, 2, none⟩) (Kd.R_far (p := ⟨gb642, 1, none⟩) (Kd.R_far (p := ⟨gb642, 0, none⟩) (Kd.R_mono HO640.out (fun k_ hk => (⟨hk, hk.2⟩ : _ ∧ k_ ≠ gb642))) (fun _ hk => hk.2) (.int .i64 t634)) (fun _ hk => hk.2) (.string t635)) (fun _ hk => hk.2) (.int .i64 t636)) (fun _ hk => hk.2) (.int .i64 t637)) (fun _ hk => hk.2) (.slice Ao47 t638.length co47)) (fun _ hk => ⟨hk.1.1.2, hk.1.2⟩)))⟩; have n1_ : Aside0 (w48.heap[gb626]? = some (.cells #[.int .i64 a0_0, .string a0_1, .int .i64 a0_2, .int .i64 a0_3, .slice A0_4 l0_4.length c0_4] 24 (0, 0))) := ⟨(by rw [hw]; exact (by (with_reducible repeat (first | apply blk_drewN | apply blk_drew | apply blk_alloc)); refine blk_far ?_ NB626_642.out _; (with_reducible repeat (first | apply blk_drewN | apply blk_drew | apply blk_alloc)); refine blk_far ?_ NB626_642.out _; (with_reducible repeat (first | apply blk_drewN | apply blk_drew | apply blk_alloc)); refine blk_far ?_ NB626_642.out _; (with_reducible repeat (first | apply blk_drewN | apply blk_drew | apply blk_alloc)); refine blk_far ?_ NB626_642.out _; (with_reducible repeat (first | apply blk_drewN | apply blk_drew | apply blk_alloc)); refine blk_far ?_ NB626_642.out _; (with_reducible repeat (first | apply blk_drewN | apply blk_drew | apply blk_alloc)); exact BK626.out))⟩; have n2_ : Aside0 (w48.heap[gb642]? = some (.cells #[.int .i64 t634, .string t635, .int .i64 t636, .int .i64 t637, .slice Ao47 t638.length co47] 24 (0, 0))) := ⟨(by rw [hw]; exact (by (with_reducible repeat (first | apply blk_drewN | apply blk_drew | apply blk_alloc)); refine blk_put (cs := #[.int .i64 t634, .string t635, .int .i64 t636, .int .i64 t637, .slice none 0 0]) ?_ 4 _ rfl; (with_reducible repeat (first | apply blk_drewN | apply blk_drew | apply blk_alloc)); refine blk_put (cs := #[.int .i64 t634, .string t635, .int .i64 t636, .int .i64 0, .slice none 0 0]) ?_ 3 _ rfl; (with_reducible repeat (first | apply blk_drewN | apply blk_drew | apply blk_alloc)); refine blk_put (cs := #[.int .i64 t634, .string t635, .int .i64 0, .int .i64 0, .slice none 0 0]) ?_ 2 _ rfl; (with_reducible repeat (first | apply blk_drewN | apply blk_drew | apply blk_alloc)); refine blk_put (cs := #[.int .i64 t634, .string (⟨#[]⟩ : ByteArray), .int .i64 0, .int .i64 0, .slice none 0 0]) ?_ 1 _ rfl; (with_reducible repeat (first | apply blk_drewN | apply blk_drew | apply blk_alloc)); refine blk_put (cs := #[.int .i64 0, .string (⟨#[]⟩ : ByteArray), .int .i64 0, .int .i64 0, .slice none 0 0]) ?_ 0 _ rfl; (with_reducible repeat (first | apply blk_drewN | apply blk_drew | apply blk_alloc)); exact BK642.out))⟩; have n3_ : Aside0 (Below w.heap.size w w48) := ⟨(by rw [hw]; exact (by repeat (first | (with_reducible first | exact HB.out | apply below_alloc | apply pw_below_drewN | apply below_drew1 | refine below_set ?_ GE626.out | refine below_set ?_ GE642.out) | exact HB.out)))⟩; clear hw; clear HO640; clear BK626; clear BK642; clear HB; have HO640 := n0_; have BK626 := n1_; have BK642 := n2_; have HB := n3_; clear n0_ n1_ n2_ n3_; have hcz49_0 : w48.cell? ⟨gb626, 0, none⟩ = some (.int .i64 a0_0) := (blk_cell BK626.out 0).trans rfl; have hcz49_1 : w48.cell? ⟨gb626, 1, none⟩ = some (.string a0_1) := (blk_cell BK626.out 1).trans rfl; have hcz49_2 : w48.cell? ⟨gb626, 2, none⟩ = some (.int .i64 a0_2) := (blk_cell BK626.out 2).trans rfl; have hcz49_3 : w48.cell? ⟨gb626, 3, none⟩ = some (.int .i64 a0_3) := (blk_cell BK626.out 3).trans rfl; have hcz49_4 : w48.cell? ⟨gb626, 4, none⟩ = some (.slice A0_4 l0_4.length c0_4) := (blk_cell BK626.out 4).trans rfl; have hfz49_0 := blk_frozen BK626.out 0; have hfz49_1 := blk_frozen BK626.out 1; have hfz49_2 := blk_frozen BK626.out 2; have hfz49_3 := blk_frozen BK626.out 3; have hfz49_4 := blk_frozen BK626.out 4) | ((with_reducible refine gate_callee (f := 24) rfl ?_); refine goesL_ (some 66) rfl rfl Try.func24 (by kernel_rfl) rfl #[.agg #[.int .i64 a0_0, .string a0_1, .int .i64 a0_2, .int .i64 a0_3, .slice A0_4 l0_4.length c0_4], .slice A1 l1.length c1] rfl (by (try simp only [List.map_toArray, List.map_cons, List.map_nil]); first | done | rfl | (simp only [List.length_drop, List.length_take]; rfl)) ?_; (with_reducible refine (tree_Get.calls k2 a0_0 a0_1 a0_2 a0_3 (fun k_ => k_ < w.heap.size) _ _ l0_4 _ _ l1 t644 t645 t646 t647 t648 t651 _ ?side1 ?side2 ?side3 A40.out).mono ?_); (case side1 => exact Kd.V_mk HC0_4.out (Kd.F_below (Kd.C_F k24_heap HR0_4.out) (by repeat (first | (with_reducible first | exact HB.out | apply below_alloc | apply pw_below_drewN | apply below_drew1 | refine below_set ?_ GE626.out | refine below_set ?_ GE642.out) | exact HB.out)))); (case side2 => repeat (first | exact (Kd.C_below HR1.out HB.out) | (with_reducible refine Kd.C_alloc ?_ _) | (with_reducible refine Kd.C_drewN ?_ _) | (with_reducible refine Kd.C_drew ?_))); (case side3 => exact HC1.out); rintro e w50 ⟨v649, rfl, ho0, hb⟩; refine ⟨_, rfl, ?_⟩; have n0_ := Aside0.mk (Kd.R_below (by (with_reducible repeat (first | apply Kd.R_alloc | apply Kd.R_drewN | apply Kd.R_drew)); exact HO640.out) hb); have n1_ := Aside0.mk (Kd.V_lower (Kd.V_mono (ok' := fun k_ => some k_ ≠ (.slice Ao47 t638.length co47 : Value).ownBlock ∧ k_ ≠ gb626 ∧ k_ ≠ gb642) ho0 (fun k_ hk_ => ⟨Or.elim hk_ (fun hs_ => fun e_ => Nat.not_le.2 hs_ (Kd.R_base HO640.out k_ e_.symm)) (fun hn_ => (Kd.fresh' (Kd.R_lt (by (with_reducible repeat (first | apply Kd.R_alloc | apply Kd.R_drewN | apply Kd.R_drew)); exact HO640.out)) k_ hn_)), Or.elim hk_ (fun hs_ => fun e_ => Nat.not_le.2 hs_ (by rw [e_]; exact GW626.out)) (fun hn_ => (Kd.freshB (g := gb626) (o := .cells #[.int .i64 a0_0, .string a0_1, .int .i64 a0_2, .int .i64 a0_3, .slice A0_4 l0_4.length c0_4] 24 (0, 0)) (by (with_reducible repeat (first | apply blk_drewN | apply blk_drew | apply blk_alloc)); exact BK626.out) k_ hn_)), Or.elim hk_ (fun hs_ => fun e_ => Nat.not_le.2 hs_ (by rw [e_]; exact GW642.out)) (fun hn_ => (Kd.freshB (g := gb642) (o := .cells #[.int .i64 t634, .string t635, .int .i64 t636, .int .i64 t637, .slice Ao47 t638.length co47] 24 (0, 0)) (by (with_reducible repeat (first | apply blk_drewN | apply blk_drew | apply blk_alloc)); exact BK642.out) k_ hn_))⟩)) (below_size (by repeat (first | (with_reducible first | exact HB.out | apply below_alloc | apply pw_below_drewN | apply below_drew1 | refine below_set ?_ GE626.out | refine below_set ?_ GE642.out) | exact HB.out)))); have n2_ := Aside0.mk (blk_below (g := gb626) (o := .cells #[.int .i64 a0_0, .string a0_1, .int .i64 a0_2, .int .i64 a0_3, .slice A0_4 l0_4.length c0_4] 24 (0, 0)) (by (with_reducible repeat (first | apply blk_drewN | apply blk_drew | apply blk_alloc)); exact BK626.out) hb); have n3_ := Aside0.mk (blk_below (g := gb642) (o := .cells #[.int .i64 t634, .string t635, .int .i64 t636, .int .i64 t637, .slice Ao47 t638.length co47] 24 (0, 0)) (by (with_reducible repeat (first | apply blk_drewN | apply blk_drew | apply blk_alloc)); exact BK642.out) hb); have n4_ := Aside0.mk (below_step (by repeat (first | (with_reducible first | exact HB.out | apply below_alloc | apply pw_below_drewN | apply below_drew1 | refine below_set ?_ GE626.out | refine below_set ?_ GE642.out) | exact HB.out)) hb); clear HO640; clear BK626; clear BK642; clear HB; have HO640 := n0_; have HO650 := n1_; have BK626 := n2_; have BK642 := n3_; have HB := n4_; clear n0_ n1_ n2_ n3_ n4_; (try clear hb); (try clear hb2); (try clear hk); (try clear hi); (try clear ho0)) | ((with_reducible refine gate_dst (N := 16) rfl ?_); (try (refine gate_guard (by rfl) ?_; dsimp only)); refine box_event ?hg (N := 16) ?hd (cs := #[.int .i64 0, .string (⟨#[]⟩ : ByteArray), .int .i64 0, .int .i64 0, .slice none 0 0]) (t := 24) ?hr ?_; (case hd => rfl); (case hg => rfl); (case hr => first | (go_simp; done) | (go_simp; rfl)); intro gb652 hg w51 hbox hb; have n0_ := Aside0.mk (Kd.R_below (Kd.R_elderB (by (with_reducible repeat (first | apply Kd.R_alloc | apply Kd.R_drewN | apply Kd.R_drew)); exact HO640.out) gb652 (Nat.le_of_eq hg.symm)) hb); have n1_ := Aside0.mk (Kd.V_below (Kd.V_elderB (by (with_reducible repeat (first | apply Kd.V_alloc | apply Kd.V_drewN | apply Kd.V_drew)); exact HO650.out) gb652 (Nat.le_of_eq hg.symm)) hb); have n2_ := Aside0.mk (blk_below (g := gb626) (o := .cells #[.int .i64 a0_0, .string a0_1, .int .i64 a0_2, .int .i64 a0_3, .slice A0_4 l0_4.length c0_4] 24 (0, 0)) (by (with_reducible repeat (first | apply blk_drewN | apply blk_drew | apply blk_alloc)); exact BK626.out) hb); have n3_ := Aside0.mk (blk_below (g := gb642) (o := .cells #[.int .i64 t634, .string t635, .int .i64 t636, .int .i64 t637, .slice Ao47 t638.length co47] 24 (0, 0)) (by (with_reducible repeat (first | apply blk_drewN | apply blk_drew | apply blk_alloc)); exact BK642.out) hb); have n4_ := Aside0.mk (below_step (by repeat (first | (with_reducible first | exact HB.out | apply below_alloc | apply pw_below_drewN | apply below_drew1 | refine below_set ?_ GE626.out | refine below_set ?_ GE642.out) | exact HB.out)) hb); have n5_ := Aside0.mk (hbox); have n6_ := Aside0.mk ((by rw [hg]; exact (below_size (by repeat (first | (with_reducible first | exact HB.out | apply below_alloc | apply pw_below_drewN | apply below_drew1 | refine below_set ?_ GE626.out | refine below_set ?_ GE642.out) | exact HB.out))) : w.heap.size ≤ gb652)); have n7_ := Aside0.mk ((by rw [hg]; exact (below_size (by repeat (first | (with_reducible first | exact HB.out | apply below_alloc | apply pw_below_drewN | apply below_drew1 | refine below_set ?_ GE626.out | refine below_set ?_ GE642.out) | exact HB.out))) : w.heap.size ≤ gb652)); have n8_ := Aside0.mk ((by rw [hg]; exact Nat.ne_of_lt (blk_lt (g := gb626) (o := .cells #[.int .i64 a0_0, .string a0_1, .int .i64 a0_2, .int .i64 a0_3, .slice A0_4 l0_4.length c0_4] 24 (0, 0)) (by (with_reducible repeat (first | apply blk_drewN | apply blk_drew | apply blk_alloc)); exact BK626.out)) : gb626 ≠ gb652)); have n9_ := Aside0.mk ((by rw [hg]; exact Nat.ne_of_gt (blk_lt (g := gb626) (o := .cells #[.int .i64 a0_0, .string a0_1, .int .i64 a0_2, .int .i64 a0_3, .slice A0_4 l0_4.length c0_4] 24 (0, 0)) (by (with_reducible repeat (first | apply blk_drewN | apply blk_drew | apply blk_alloc)); exact BK626.out)) : gb652 ≠ gb626)); have n10_ := Aside0.mk ((by rw [hg]; exact Nat.ne_of_lt (blk_lt (g := gb642) (o := .cells #[.int .i64 t634, .string t635, .int .i64 t636, .int .i64 t637, .slice Ao47 t638.length co47] 24 (0, 0)) (by (with_reducible repeat (first | apply blk_drewN | apply blk_drew | apply blk_alloc)); exact BK642.out)) : gb642 ≠ gb652)); have n11_ := Aside0.mk ((by rw [hg]; exact Nat.ne_of_gt (blk_lt (g := gb642) (o := .cells #[.int .i64 t634, .string t635, .int .i64 t636, .int .i64 t637, .slice Ao47 t638.length co47] 24 (0, 0)) (by (with_reducible repeat (first | apply blk_drewN | apply blk_drew | apply blk_alloc)); exact BK642.out)) : gb652 ≠ gb642)); clear HO640; clear HO650; clear BK626; clear BK642; clear HB; have HO640 := n0_; have HO650 := n1_; have BK626 := n2_; have BK642 := n3_; have HB := n4_; have BK652 := n5_; have GW652 := n6_; have GE652 := n7_; have NB626_652 := n8_; have NB652_626 := n9_; have NB642_652 := n10_; have NB652_642 := n11_; clear n0_ n1_ n2_ n3_ n4_ n5_ n6_ n7_ n8_ n9_ n10_ n11_; clear hb hbox hg; have hnb52 := NB652_626.out; have hnc52 := NB626_652.out; have hnb53 := NB652_642.out; have hnc53 := NB642_652.out; have hcz54_0 : w51.cell? ⟨gb652, 0, none⟩ = some (.int .i64 0) := (blk_cell BK652.out 0).trans rfl; have hcz54_1 : w51.cell? ⟨gb652, 1, none⟩ = some (.string (⟨#[]⟩ : ByteArray)) := (blk_cell BK652.out 1).trans rfl; have hcz54_2 : w51.cell? ⟨gb652, 2, none⟩ = some (.int .i64 0) := (blk_cell BK652.out 2).trans rfl; have hcz54_3 : w51.cell? ⟨gb652, 3, none⟩ = some (.int .i64 0) := (blk_cell BK652.out 3).trans rfl; have hcz54_4 : w51.cell? ⟨gb652, 4, none⟩ = some (.slice none 0 0) := (blk_cell BK652.out 4).trans rfl; have hfz54_0 := blk_frozen BK652.out 0; have hfz54_1 := blk_frozen BK652.out 1; have hfz54_2 := blk_frozen BK652.out 2; have hfz54_3 := blk_frozen BK652.out 3; have hfz54_4 := blk_frozen BK652.out 4; obtain ⟨Ao55, co55, eo55⟩ := Kd.V_slice HO650.out; subst eo55))
        (try simp only [Act.put, List.setIfInBounds_toArray, List.set_cons_zero, List.set_cons_succ])
        go_cut [86] (fun v86 wc => ∃ (kq : Nat) (x86_40 : Bool), v86 = .bool x86_40 ∧ Aside0 (assessorlaw03_TreeRestores.j2 kq l1 a2 a3 l4 x11_2 x86_40 a0_0 a0_1 a0_2 a0_3 l0_4 t634 t635 t636 t637 t638 t644 t645 t646 t647 t648 = some r) ∧ Aside0 (kq ≤ k2) ∧ Aside0 (Kd.R k24 24 wc w.heap.size (fun k_ => k_ ≠ gb626 ∧ k_ ≠ gb642 ∧ k_ ≠ gb652) (.slice Ao47 t638.length co47) t638) ∧ Aside0 (Kd.V k24 24 wc w.heap.size (fun k_ => some k_ ≠ ((.slice Ao47 t638.length co47) : Value).ownBlock ∧ k_ ≠ gb626 ∧ k_ ≠ gb642 ∧ k_ ≠ gb652) (.slice Ao55 t648.length co55) t648) ∧ Aside0 (wc.heap[gb626]? = some (.cells #[.int .i64 a0_0, .string a0_1, .int .i64 a0_2, .int .i64 a0_3, (.slice A0_4 l0_4.length c0_4)] 24 (0, 0))) ∧ Aside0 (wc.heap[gb642]? = some (.cells #[.int .i64 t634, .string t635, .int .i64 t636, .int .i64 t637, (.slice Ao47 t638.length co47)] 24 (0, 0))) ∧ Aside0 (wc.heap[gb652]? = some (.cells #[.int .i64 t644, .string t645, .int .i64 t646, .int .i64 t647, (.slice Ao55 t648.length co55)] 24 (0, 0))) ∧ Aside0 (Below w.heap.size w wc))
        case first =>
         have H := HC41.out
         clear HC41
         by_cases c56 : t651 = true
         ·subst c56
          have H1 : (if a2 < 0 then (assessorlaw03_TreeRestores.j2 k2 l1 a2 a3 l4 x11_2 true a0_0 a0_1 a0_2 a0_3 l0_4 t634 t635 t636 t637 t638 t644 t645 t646 t647 t648) else (if a2 > a3 then (assessorlaw03_TreeRestores.j2 k2 l1 a2 a3 l4 x11_2 true a0_0 a0_1 a0_2 a0_3 l0_4 t634 t635 t636 t637 t638 t644 t645 t646 t647 t648) else (assessorlaw03_TreeRestores.j2 k2 l1 a2 a3 l4 x11_2 (decide (a3 > (t648.length : Int))) a0_0 a0_1 a0_2 a0_3 l0_4 t634 t635 t636 t637 t638 t644 t645 t646 t647 t648))) = some r := by rw [if_pos rfl] at H; exact H
          clear H
          have H := H1
          clear H1
          by_cases c57 : a2 < 0
          ·rw [if_pos c57] at H
           have c57b0 : decide (a2 < 0) = true := decide_eq_true c57
           clear c57
           (first | rw [c57b0] | (simp only [i64_w, i32_w]; rw [c57b0]) | skip)
           have H' := Aside0.mk H
           clear H
           go_wp2
           go_meet
           case rel => exact ⟨_, (true), (by first | rfl | (simp; done) | (simp [*]; done)), H', ⟨by have := HJ5.out; have := HK2.out; first | omega | exact Nat.le_refl _⟩, ⟨by (with_reducible repeat (first | apply Kd.R_alloc | apply Kd.R_drewN | apply Kd.R_drew)); exact Kd.R_mono (Kd.R_far (p := ⟨gb652, 4, none⟩) (Kd.R_far (p := ⟨gb652, 3, none⟩) (Kd.R_far (p := ⟨gb652, 2, none⟩) (Kd.R_far (p := ⟨gb652, 1, none⟩) (Kd.R_far (p := ⟨gb652, 0, none⟩) (Kd.R_mono HO640.out (fun k_ hk => (⟨hk, hk.2⟩ : _ ∧ k_ ≠ gb652))) (fun _ hk => hk.2) (.int .i64 t644)) (fun _ hk => hk.2) (.string t645)) (fun _ hk => hk.2) (.int .i64 t646)) (fun _ hk => hk.2) (.int .i64 t647)) (fun _ hk => hk.2) (.slice Ao55 t648.length co55)) (fun _ hk => ⟨hk.1.1.1, ⟨hk.1.1.2, hk.1.2⟩⟩)⟩, ⟨by (with_reducible repeat (first | apply Kd.V_alloc | apply Kd.V_drewN | apply Kd.V_drew)); exact Kd.V_mono (Kd.V_far (p := ⟨gb652, 4, none⟩) (Kd.V_far (p := ⟨gb652, 3, none⟩) (Kd.V_far (p := ⟨gb652, 2, none⟩) (Kd.V_far (p := ⟨gb652, 1, none⟩) (Kd.V_far (p := ⟨gb652, 0, none⟩) (Kd.V_mono HO650.out (fun k_ hk => (⟨hk, hk.2⟩ : _ ∧ k_ ≠ gb652))) (fun _ hk => hk.2) (.int .i64 t644)) (fun _ hk => hk.2) (.string t645)) (fun _ hk => hk.2) (.int .i64 t646)) (fun _ hk => hk.2) (.int .i64 t647)) (fun _ hk => hk.2) (.slice Ao55 t648.length co55)) (fun _ hk => ⟨hk.1.1.1, ⟨hk.1.1.2.1, ⟨hk.1.1.2.2, hk.1.2⟩⟩⟩)⟩, ⟨by (with_reducible repeat (first | apply blk_drewN | apply blk_drew | apply blk_alloc)); refine blk_far ?_ NB626_652.out _; (with_reducible repeat (first | apply blk_drewN | apply blk_drew | apply blk_alloc)); refine blk_far ?_ NB626_652.out _; (with_reducible repeat (first | apply blk_drewN | apply blk_drew | apply blk_alloc)); refine blk_far ?_ NB626_652.out _; (with_reducible repeat (first | apply blk_drewN | apply blk_drew | apply blk_alloc)); refine blk_far ?_ NB626_652.out _; (with_reducible repeat (first | apply blk_drewN | apply blk_drew | apply blk_alloc)); refine blk_far ?_ NB626_652.out _; (with_reducible repeat (first | apply blk_drewN | apply blk_drew | apply blk_alloc)); exact BK626.out⟩, ⟨by (with_reducible repeat (first | apply blk_drewN | apply blk_drew | apply blk_alloc)); refine blk_far ?_ NB642_652.out _; (with_reducible repeat (first | apply blk_drewN | apply blk_drew | apply blk_alloc)); refine blk_far ?_ NB642_652.out _; (with_reducible repeat (first | apply blk_drewN | apply blk_drew | apply blk_alloc)); refine blk_far ?_ NB642_652.out _; (with_reducible repeat (first | apply blk_drewN | apply blk_drew | apply blk_alloc)); refine blk_far ?_ NB642_652.out _; (with_reducible repeat (first | apply blk_drewN | apply blk_drew | apply blk_alloc)); refine blk_far ?_ NB642_652.out _; (with_reducible repeat (first | apply blk_drewN | apply blk_drew | apply blk_alloc)); exact BK642.out⟩, ⟨by (with_reducible repeat (first | apply blk_drewN | apply blk_drew | apply blk_alloc)); refine blk_put (cs := #[.int .i64 t644, .string t645, .int .i64 t646, .int .i64 t647, .slice none 0 0]) ?_ 4 _ rfl; (with_reducible repeat (first | apply blk_drewN | apply blk_drew | apply blk_alloc)); refine blk_put (cs := #[.int .i64 t644, .string t645, .int .i64 t646, .int .i64 0, .slice none 0 0]) ?_ 3 _ rfl; (with_reducible repeat (first | apply blk_drewN | apply blk_drew | apply blk_alloc)); refine blk_put (cs := #[.int .i64 t644, .string t645, .int .i64 0, .int .i64 0, .slice none 0 0]) ?_ 2 _ rfl; (with_reducible repeat (first | apply blk_drewN | apply blk_drew | apply blk_alloc)); refine blk_put (cs := #[.int .i64 t644, .string (⟨#[]⟩ : ByteArray), .int .i64 0, .int .i64 0, .slice none 0 0]) ?_ 1 _ rfl; (with_reducible repeat (first | apply blk_drewN | apply blk_drew | apply blk_alloc)); refine blk_put (cs := #[.int .i64 0, .string (⟨#[]⟩ : ByteArray), .int .i64 0, .int .i64 0, .slice none 0 0]) ?_ 0 _ rfl; (with_reducible repeat (first | apply blk_drewN | apply blk_drew | apply blk_alloc)); exact BK652.out⟩, ⟨by repeat (first | (with_reducible first | exact HB.out | apply below_alloc | apply pw_below_drewN | apply below_drew1 | refine below_set ?_ GE626.out | refine below_set ?_ GE642.out | refine below_set ?_ GE652.out) | exact HB.out)⟩⟩
          ·rw [if_neg c57] at H
           have c57b0 : decide (a2 < 0) = false := decide_eq_false c57
           clear c57
           (first | rw [c57b0] | (simp only [i64_w, i32_w]; rw [c57b0]) | skip)
           by_cases c58 : a2 > a3
           ·rw [if_pos c58] at H
            have c58b0 : decide (a3 < a2) = true := decide_eq_true c58
            clear c58
            have H' := Aside0.mk H
            clear H
            go_wp2
            go_meet
            case rel => exact ⟨_, (true), (by first | rfl | (simp; done) | (simp [*]; done)), H', ⟨by have := HJ5.out; have := HK2.out; first | omega | exact Nat.le_refl _⟩, ⟨by (with_reducible repeat (first | apply Kd.R_alloc | apply Kd.R_drewN | apply Kd.R_drew)); exact Kd.R_mono (Kd.R_far (p := ⟨gb652, 4, none⟩) (Kd.R_far (p := ⟨gb652, 3, none⟩) (Kd.R_far (p := ⟨gb652, 2, none⟩) (Kd.R_far (p := ⟨gb652, 1, none⟩) (Kd.R_far (p := ⟨gb652, 0, none⟩) (Kd.R_mono HO640.out (fun k_ hk => (⟨hk, hk.2⟩ : _ ∧ k_ ≠ gb652))) (fun _ hk => hk.2) (.int .i64 t644)) (fun _ hk => hk.2) (.string t645)) (fun _ hk => hk.2) (.int .i64 t646)) (fun _ hk => hk.2) (.int .i64 t647)) (fun _ hk => hk.2) (.slice Ao55 t648.length co55)) (fun _ hk => ⟨hk.1.1.1, ⟨hk.1.1.2, hk.1.2⟩⟩)⟩, ⟨by (with_reducible repeat (first | apply Kd.V_alloc | apply Kd.V_drewN | apply Kd.V_drew)); exact Kd.V_mono (Kd.V_far (p := ⟨gb652, 4, none⟩) (Kd.V_far (p := ⟨gb652, 3, none⟩) (Kd.V_far (p := ⟨gb652, 2, none⟩) (Kd.V_far (p := ⟨gb652, 1, none⟩) (Kd.V_far (p := ⟨gb652, 0, none⟩) (Kd.V_mono HO650.out (fun k_ hk => (⟨hk, hk.2⟩ : _ ∧ k_ ≠ gb652))) (fun _ hk => hk.2) (.int .i64 t644)) (fun _ hk => hk.2) (.string t645)) (fun _ hk => hk.2) (.int .i64 t646)) (fun _ hk => hk.2) (.int .i64 t647)) (fun _ hk => hk.2) (.slice Ao55 t648.length co55)) (fun _ hk => ⟨hk.1.1.1, ⟨hk.1.1.2.1, ⟨hk.1.1.2.2, hk.1.2⟩⟩⟩)⟩, ⟨by (with_reducible repeat (first | apply blk_drewN | apply blk_drew | apply blk_alloc)); refine blk_far ?_ NB626_652.out _; (with_reducible repeat (first | apply blk_drewN | apply blk_drew | apply blk_alloc)); refine blk_far ?_ NB626_652.out _; (with_reducible repeat (first | apply blk_drewN | apply blk_drew | apply blk_alloc)); refine blk_far ?_ NB626_652.out _; (with_reducible repeat (first | apply blk_drewN | apply blk_drew | apply blk_alloc)); refine blk_far ?_ NB626_652.out _; (with_reducible repeat (first | apply blk_drewN | apply blk_drew | apply blk_alloc)); refine blk_far ?_ NB626_652.out _; (with_reducible repeat (first | apply blk_drewN | apply blk_drew | apply blk_alloc)); exact BK626.out⟩, ⟨by (with_reducible repeat (first | apply blk_drewN | apply blk_drew | apply blk_alloc)); refine blk_far ?_ NB642_652.out _; (with_reducible repeat (first | apply blk_drewN | apply blk_drew | apply blk_alloc)); refine blk_far ?_ NB642_652.out _; (with_reducible repeat (first | apply blk_drewN | apply blk_drew | apply blk_alloc)); refine blk_far ?_ NB642_652.out _; (with_reducible repeat (first | apply blk_drewN | apply blk_drew | apply blk_alloc)); refine blk_far ?_ NB642_652.out _; (with_reducible repeat (first | apply blk_drewN | apply blk_drew | apply blk_alloc)); refine blk_far ?_ NB642_652.out _; (with_reducible repeat (first | apply blk_drewN | apply blk_drew | apply blk_alloc)); exact BK642.out⟩, ⟨by (with_reducible repeat (first | apply blk_drewN | apply blk_drew | apply blk_alloc)); refine blk_put (cs := #[.int .i64 t644, .string t645, .int .i64 t646, .int .i64 t647, .slice none 0 0]) ?_ 4 _ rfl; (with_reducible repeat (first | apply blk_drewN | apply blk_drew | apply blk_alloc)); refine blk_put (cs := #[.int .i64 t644, .string t645, .int .i64 t646, .int .i64 0, .slice none 0 0]) ?_ 3 _ rfl; (with_reducible repeat (first | apply blk_drewN | apply blk_drew | apply blk_alloc)); refine blk_put (cs := #[.int .i64 t644, .string t645, .int .i64 0, .int .i64 0, .slice none 0 0]) ?_ 2 _ rfl; (with_reducible repeat (first | apply blk_drewN | apply blk_drew | apply blk_alloc)); refine blk_put (cs := #[.int .i64 t644, .string (⟨#[]⟩ : ByteArray), .int .i64 0, .int .i64 0, .slice none 0 0]) ?_ 1 _ rfl; (with_reducible repeat (first | apply blk_drewN | apply blk_drew | apply blk_alloc)); refine blk_put (cs := #[.int .i64 0, .string (⟨#[]⟩ : ByteArray), .int .i64 0, .int .i64 0, .slice none 0 0]) ?_ 0 _ rfl; (with_reducible repeat (first | apply blk_drewN | apply blk_drew | apply blk_alloc)); exact BK652.out⟩, ⟨by repeat (first | (with_reducible first | exact HB.out | apply below_alloc | apply pw_below_drewN | apply below_drew1 | refine below_set ?_ GE626.out | refine below_set ?_ GE642.out | refine below_set ?_ GE652.out) | exact HB.out)⟩⟩
           ·rw [if_neg c58] at H
            have c58b0 : decide (a3 < a2) = false := decide_eq_false c58
            clear c58
            have H' := Aside0.mk H
            clear H
            have hnb59 := NB652_626.out
            have hnc59 := NB626_652.out
            have hnb60 := NB652_642.out
            have hnc60 := NB642_652.out
            have hcz61_0 : w51.cell? ⟨gb652, 0, none⟩ = some (.int .i64 0) := (blk_cell BK652.out 0).trans rfl
            have hcz61_1 : w51.cell? ⟨gb652, 1, none⟩ = some (.string (⟨#[]⟩ : ByteArray)) := (blk_cell BK652.out 1).trans rfl
            have hcz61_2 : w51.cell? ⟨gb652, 2, none⟩ = some (.int .i64 0) := (blk_cell BK652.out 2).trans rfl
            have hcz61_3 : w51.cell? ⟨gb652, 3, none⟩ = some (.int .i64 0) := (blk_cell BK652.out 3).trans rfl
            have hcz61_4 : w51.cell? ⟨gb652, 4, none⟩ = some (.slice none 0 0) := (blk_cell BK652.out 4).trans rfl
            have hfz61_0 := blk_frozen BK652.out 0
            have hfz61_1 := blk_frozen BK652.out 1
            have hfz61_2 := blk_frozen BK652.out 2
            have hfz61_3 := blk_frozen BK652.out 3
            have hfz61_4 := blk_frozen BK652.out 4
            go_wp2
            go_meet
            case rel => exact ⟨_, (decide (a3 > (t648.length : Int))), (by first | rfl | (simp; done) | (simp [*]; done)), H', ⟨by have := HJ5.out; have := HK2.out; first | omega | exact Nat.le_refl _⟩, ⟨by (with_reducible repeat (first | apply Kd.R_alloc | apply Kd.R_drewN | apply Kd.R_drew)); exact Kd.R_mono (Kd.R_far (p := ⟨gb652, 4, none⟩) (Kd.R_far (p := ⟨gb652, 3, none⟩) (Kd.R_far (p := ⟨gb652, 2, none⟩) (Kd.R_far (p := ⟨gb652, 1, none⟩) (Kd.R_far (p := ⟨gb652, 0, none⟩) (Kd.R_mono HO640.out (fun k_ hk => (⟨hk, hk.2⟩ : _ ∧ k_ ≠ gb652))) (fun _ hk => hk.2) (.int .i64 t644)) (fun _ hk => hk.2) (.string t645)) (fun _ hk => hk.2) (.int .i64 t646)) (fun _ hk => hk.2) (.int .i64 t647)) (fun _ hk => hk.2) (.slice Ao55 t648.length co55)) (fun _ hk => ⟨hk.1.1.1, ⟨hk.1.1.2, hk.1.2⟩⟩)⟩, ⟨by (with_reducible repeat (first | apply Kd.V_alloc | apply Kd.V_drewN | apply Kd.V_drew)); exact Kd.V_mono (Kd.V_far (p := ⟨gb652, 4, none⟩) (Kd.V_far (p := ⟨gb652, 3, none⟩) (Kd.V_far (p := ⟨gb652, 2, none⟩) (Kd.V_far (p := ⟨gb652, 1, none⟩) (Kd.V_far (p := ⟨gb652, 0, none⟩) (Kd.V_mono HO650.out (fun k_ hk => (⟨hk, hk.2⟩ : _ ∧ k_ ≠ gb652))) (fun _ hk => hk.2) (.int .i64 t644)) (fun _ hk => hk.2) (.string t645)) (fun _ hk => hk.2) (.int .i64 t646)) (fun _ hk => hk.2) (.int .i64 t647)) (fun _ hk => hk.2) (.slice Ao55 t648.length co55)) (fun _ hk => ⟨hk.1.1.1, ⟨hk.1.1.2.1, ⟨hk.1.1.2.2, hk.1.2⟩⟩⟩)⟩, ⟨by (with_reducible repeat (first | apply blk_drewN | apply blk_drew | apply blk_alloc)); refine blk_far ?_ NB626_652.out _; (with_reducible repeat (first | apply blk_drewN | apply blk_drew | apply blk_alloc)); refine blk_far ?_ NB626_652.out _; (with_reducible repeat (first | apply blk_drewN | apply blk_drew | apply blk_alloc)); refine blk_far ?_ NB626_652.out _; (with_reducible repeat (first | apply blk_drewN | apply blk_drew | apply blk_alloc)); refine blk_far ?_ NB626_652.out _; (with_reducible repeat (first | apply blk_drewN | apply blk_drew | apply blk_alloc)); refine blk_far ?_ NB626_652.out _; (with_reducible repeat (first | apply blk_drewN | apply blk_drew | apply blk_alloc)); exact BK626.out⟩, ⟨by (with_reducible repeat (first | apply blk_drewN | apply blk_drew | apply blk_alloc)); refine blk_far ?_ NB642_652.out _; (with_reducible repeat (first | apply blk_drewN | apply blk_drew | apply blk_alloc)); refine blk_far ?_ NB642_652.out _; (with_reducible repeat (first | apply blk_drewN | apply blk_drew | apply blk_alloc)); refine blk_far ?_ NB642_652.out _; (with_reducible repeat (first | apply blk_drewN | apply blk_drew | apply blk_alloc)); refine blk_far ?_ NB642_652.out _; (with_reducible repeat (first | apply blk_drewN | apply blk_drew | apply blk_alloc)); refine blk_far ?_ NB642_652.out _; (with_reducible repeat (first | apply blk_drewN | apply blk_drew | apply blk_alloc)); exact BK642.out⟩, ⟨by (with_reducible repeat (first | apply blk_drewN | apply blk_drew | apply blk_alloc)); refine blk_put (cs := #[.int .i64 t644, .string t645, .int .i64 t646, .int .i64 t647, .slice none 0 0]) ?_ 4 _ rfl; (with_reducible repeat (first | apply blk_drewN | apply blk_drew | apply blk_alloc)); refine blk_put (cs := #[.int .i64 t644, .string t645, .int .i64 t646, .int .i64 0, .slice none 0 0]) ?_ 3 _ rfl; (with_reducible repeat (first | apply blk_drewN | apply blk_drew | apply blk_alloc)); refine blk_put (cs := #[.int .i64 t644, .string t645, .int .i64 0, .int .i64 0, .slice none 0 0]) ?_ 2 _ rfl; (with_reducible repeat (first | apply blk_drewN | apply blk_drew | apply blk_alloc)); refine blk_put (cs := #[.int .i64 t644, .string (⟨#[]⟩ : ByteArray), .int .i64 0, .int .i64 0, .slice none 0 0]) ?_ 1 _ rfl; (with_reducible repeat (first | apply blk_drewN | apply blk_drew | apply blk_alloc)); refine blk_put (cs := #[.int .i64 0, .string (⟨#[]⟩ : ByteArray), .int .i64 0, .int .i64 0, .slice none 0 0]) ?_ 0 _ rfl; (with_reducible repeat (first | apply blk_drewN | apply blk_drew | apply blk_alloc)); exact BK652.out⟩, ⟨by repeat (first | (with_reducible first | exact HB.out | apply below_alloc | apply pw_below_drewN | apply below_drew1 | refine below_set ?_ GE626.out | refine below_set ?_ GE642.out | refine below_set ?_ GE652.out) | exact HB.out)⟩⟩
         ·replace c56 := Bool.eq_false_iff.mpr c56
          subst c56
          have H1 : (assessorlaw03_TreeRestores.j2 k2 l1 a2 a3 l4 x11_2 true a0_0 a0_1 a0_2 a0_3 l0_4 t634 t635 t636 t637 t638 t644 t645 t646 t647 t648) = some r := by rw [if_neg (show ¬ (false = true) by decide)] at H; exact H
          clear H
          have H := H1
          clear H1
          have H' := Aside0.mk H
          clear H
          go_wp2
          go_meet
          case rel => exact ⟨_, (true), (by first | rfl | (simp; done) | (simp [*]; done)), H', ⟨by have := HJ5.out; have := HK2.out; first | omega | exact Nat.le_refl _⟩, ⟨by (with_reducible repeat (first | apply Kd.R_alloc | apply Kd.R_drewN | apply Kd.R_drew)); exact Kd.R_mono (Kd.R_far (p := ⟨gb652, 4, none⟩) (Kd.R_far (p := ⟨gb652, 3, none⟩) (Kd.R_far (p := ⟨gb652, 2, none⟩) (Kd.R_far (p := ⟨gb652, 1, none⟩) (Kd.R_far (p := ⟨gb652, 0, none⟩) (Kd.R_mono HO640.out (fun k_ hk => (⟨hk, hk.2⟩ : _ ∧ k_ ≠ gb652))) (fun _ hk => hk.2) (.int .i64 t644)) (fun _ hk => hk.2) (.string t645)) (fun _ hk => hk.2) (.int .i64 t646)) (fun _ hk => hk.2) (.int .i64 t647)) (fun _ hk => hk.2) (.slice Ao55 t648.length co55)) (fun _ hk => ⟨hk.1.1.1, ⟨hk.1.1.2, hk.1.2⟩⟩)⟩, ⟨by (with_reducible repeat (first | apply Kd.V_alloc | apply Kd.V_drewN | apply Kd.V_drew)); exact Kd.V_mono (Kd.V_far (p := ⟨gb652, 4, none⟩) (Kd.V_far (p := ⟨gb652, 3, none⟩) (Kd.V_far (p := ⟨gb652, 2, none⟩) (Kd.V_far (p := ⟨gb652, 1, none⟩) (Kd.V_far (p := ⟨gb652, 0, none⟩) (Kd.V_mono HO650.out (fun k_ hk => (⟨hk, hk.2⟩ : _ ∧ k_ ≠ gb652))) (fun _ hk => hk.2) (.int .i64 t644)) (fun _ hk => hk.2) (.string t645)) (fun _ hk => hk.2) (.int .i64 t646)) (fun _ hk => hk.2) (.int .i64 t647)) (fun _ hk => hk.2) (.slice Ao55 t648.length co55)) (fun _ hk => ⟨hk.1.1.1, ⟨hk.1.1.2.1, ⟨hk.1.1.2.2, hk.1.2⟩⟩⟩)⟩, ⟨by (with_reducible repeat (first | apply blk_drewN | apply blk_drew | apply blk_alloc)); refine blk_far ?_ NB626_652.out _; (with_reducible repeat (first | apply blk_drewN | apply blk_drew | apply blk_alloc)); refine blk_far ?_ NB626_652.out _; (with_reducible repeat (first | apply blk_drewN | apply blk_drew | apply blk_alloc)); refine blk_far ?_ NB626_652.out _; (with_reducible repeat (first | apply blk_drewN | apply blk_drew | apply blk_alloc)); refine blk_far ?_ NB626_652.out _; (with_reducible repeat (first | apply blk_drewN | apply blk_drew | apply blk_alloc)); refine blk_far ?_ NB626_652.out _; (with_reducible repeat (first | apply blk_drewN | apply blk_drew | apply blk_alloc)); exact BK626.out⟩, ⟨by (with_reducible repeat (first | apply blk_drewN | apply blk_drew | apply blk_alloc)); refine blk_far ?_ NB642_652.out _; (with_reducible repeat (first | apply blk_drewN | apply blk_drew | apply blk_alloc)); refine blk_far ?_ NB642_652.out _; (with_reducible repeat (first | apply blk_drewN | apply blk_drew | apply blk_alloc)); refine blk_far ?_ NB642_652.out _; (with_reducible repeat (first | apply blk_drewN | apply blk_drew | apply blk_alloc)); refine blk_far ?_ NB642_652.out _; (with_reducible repeat (first | apply blk_drewN | apply blk_drew | apply blk_alloc)); refine blk_far ?_ NB642_652.out _; (with_reducible repeat (first | apply blk_drewN | apply blk_drew | apply blk_alloc)); exact BK642.out⟩, ⟨by (with_reducible repeat (first | apply blk_drewN | apply blk_drew | apply blk_alloc)); refine blk_put (cs := #[.int .i64 t644, .string t645, .int .i64 t646, .int .i64 t647, .slice none 0 0]) ?_ 4 _ rfl; (with_reducible repeat (first | apply blk_drewN | apply blk_drew | apply blk_alloc)); refine blk_put (cs := #[.int .i64 t644, .string t645, .int .i64 t646, .int .i64 0, .slice none 0 0]) ?_ 3 _ rfl; (with_reducible repeat (first | apply blk_drewN | apply blk_drew | apply blk_alloc)); refine blk_put (cs := #[.int .i64 t644, .string t645, .int .i64 0, .int .i64 0, .slice none 0 0]) ?_ 2 _ rfl; (with_reducible repeat (first | apply blk_drewN | apply blk_drew | apply blk_alloc)); refine blk_put (cs := #[.int .i64 t644, .string (⟨#[]⟩ : ByteArray), .int .i64 0, .int .i64 0, .slice none 0 0]) ?_ 1 _ rfl; (with_reducible repeat (first | apply blk_drewN | apply blk_drew | apply blk_alloc)); refine blk_put (cs := #[.int .i64 0, .string (⟨#[]⟩ : ByteArray), .int .i64 0, .int .i64 0, .slice none 0 0]) ?_ 0 _ rfl; (with_reducible repeat (first | apply blk_drewN | apply blk_drew | apply blk_alloc)); exact BK652.out⟩, ⟨by repeat (first | (with_reducible first | exact HB.out | apply below_alloc | apply pw_below_drewN | apply below_drew1 | refine below_set ?_ GE626.out | refine below_set ?_ GE642.out | refine below_set ?_ GE652.out) | exact HB.out)⟩⟩
        case rest =>
         clear HC41
         try clear c1
         try clear c2
         try clear p2
         try clear c3
         try clear c4
         try clear c5
         try clear c6
         try clear p6
         try clear q6
         try clear hx6
         try clear c9
         try clear c10
         try clear c10b0
         try clear c10b1
         try clear c11
         try clear c17
         try clear c20
         try clear c20b0
         try clear c21
         try clear c21b0
         try clear c22
         try clear c22b0
         try clear c24
         try clear c27
         try clear c32
         try clear c34
         try clear c37
         try clear c39
         try clear c39b0
         try clear c39b1
         try clear c45
         try clear c52
         try clear c53
         try clear c56
         try clear c57
         try clear c57b0
         try clear c58
         try clear c58b0
         try clear c59
         try clear c60
         try clear hcz11_0
         try clear hcz11_1
         try clear hcz11_2
         try clear hcz11_3
         try clear hcz11_4
         try clear hcz13_0
         try clear hcz13_1
         try clear hcz13_2
         try clear hcz13_3
         try clear hcz13_4
         try clear hcz15_0
         try clear hcz15_1
         try clear hcz15_2
         try clear hcz15_3
         try clear hcz15_4
         try clear hcz28_0
         try clear hcz28_1
         try clear hcz28_2
         try clear hcz28_3
         try clear hcz28_4
         try clear hcz30_0
         try clear hcz30_1
         try clear hcz30_2
         try clear hcz30_3
         try clear hcz30_4
         try clear hcz35_0
         try clear hcz35_1
         try clear hcz35_2
         try clear hcz35_3
         try clear hcz35_4
         try clear hcz42_0
         try clear hcz42_1
         try clear hcz42_2
         try clear hcz42_3
         try clear hcz42_4
         try clear hcz46_0
         try clear hcz46_1
         try clear hcz46_2
         try clear hcz46_3
         try clear hcz46_4
         try clear hcz49_0
         try clear hcz49_1
         try clear hcz49_2
         try clear hcz49_3
         try clear hcz49_4
         try clear hcz54_0
         try clear hcz54_1
         try clear hcz54_2
         try clear hcz54_3
         try clear hcz54_4
         try clear hcz61_0
         try clear hcz61_1
         try clear hcz61_2
         try clear hcz61_3
         try clear hcz61_4
         try clear hfz11_0
         try clear hfz11_1
         try clear hfz11_2
         try clear hfz11_3
         try clear hfz11_4
         try clear hfz13_0
         try clear hfz13_1
         try clear hfz13_2
         try clear hfz13_3
         try clear hfz13_4
         try clear hfz15_0
         try clear hfz15_1
         try clear hfz15_2
         try clear hfz15_3
         try clear hfz15_4
         try clear hfz28_0
         try clear hfz28_1
         try clear hfz28_2
         try clear hfz28_3
         try clear hfz28_4
         try clear hfz30_0
         try clear hfz30_1
         try clear hfz30_2
         try clear hfz30_3
         try clear hfz30_4
         try clear hfz35_0
         try clear hfz35_1
         try clear hfz35_2
         try clear hfz35_3
         try clear hfz35_4
         try clear hfz42_0
         try clear hfz42_1
         try clear hfz42_2
         try clear hfz42_3
         try clear hfz42_4
         try clear hfz46_0
         try clear hfz46_1
         try clear hfz46_2
         try clear hfz46_3
         try clear hfz46_4
         try clear hfz49_0
         try clear hfz49_1
         try clear hfz49_2
         try clear hfz49_3
         try clear hfz49_4
         try clear hfz54_0
         try clear hfz54_1
         try clear hfz54_2
         try clear hfz54_3
         try clear hfz54_4
         try clear hfz61_0
         try clear hfz61_1
         try clear hfz61_2
         try clear hfz61_3
         try clear hfz61_4
         try clear hx629_0
         try clear hx629_1
         try clear hx629_2
         try clear hx629_3
         try clear hx629_4
         try clear p2
         try clear p629
         try clear q629
         obtain ⟨kq, x86_40, rfl, HA, HJ40, HO_643004, HO_653004, BK626, BK642, BK652, HB⟩ := hcut
         cases kq with
         | zero => exact absurd HA.out (by simp [assessorlaw03_TreeRestores.j2])
         | succ kj40 =>
          have H := HA.out
          clear HA
          simp only [assessorlaw03_TreeRestores.j2] at H
          by_cases c62 : x86_40 = true
          ·subst c62
           have H1 : (some false) = some r := by rw [if_pos rfl] at H; exact H
           clear H
           have H := H1
           clear H1
           obtain rfl := Option.some.inj H
           go_wp2
           go_ret
           exact ⟨by first | rfl | (simp [errW_none, errW_some] <;> rfl) | (simp [*, errW_none, errW_some] <;> rfl) | (simp [IntKind.wrap_i64, wrap64]; done), by repeat (first | (with_reducible first | exact HB.out | apply below_alloc | apply pw_below_drewN | apply below_drew1 | refine below_set ?_ GE626.out | refine below_set ?_ GE642.out | refine below_set ?_ GE652.out) | exact HB.out)⟩
          ·replace c62 := Bool.eq_false_iff.mpr c62
           subst c62
           have H1 : (if 0 ≤ a2 then (if a2 ≤ a3 then (if a3 ≤ (t648.length : Int) then ((some ((t648.take (a3 : Int).toNat).drop (a2 : Int).toNat : List (S24))).bind fun y653 => (assessorlaw03_TreeRestores.l1 kj40 l1 a2 a3 l4 x11_2 y653 (y653.length : Int) 0 a0_0 a0_1 a0_2 a0_3 l0_4 t634 t635 t636 t637 t638 t644 t645 t646 t647 t648)) else (none)) else (none)) else (none)) = some r := by rw [if_neg (show ¬ (false = true) by decide)] at H; exact H
           clear H
           have H := H1
           clear H1
           by_cases c63 : 0 ≤ a2
           ·rw [if_pos c63] at H
            have c63b0 := eq_true c63
            have c63b1 : decide (0 ≤ a2) = true := decide_eq_true c63
            clear c63
            by_cases c64 : a2 ≤ a3
            ·rw [if_pos c64] at H
             have c64b0 := eq_true c64
             have c64b1 : decide (a2 ≤ a3) = true := decide_eq_true c64
             clear c64
             by_cases c65 : a3 ≤ (t648.length : Int)
             ·rw [if_pos c65] at H
              have c65b0 := eq_true c65
              have c65b1 : decide (a3 ≤ (t648.length : Int)) = true := decide_eq_true c65
              clear c65
              obtain ⟨y653, hy653⟩ : ∃ y_ : List (S24), y_ = ((t648.take (a3 : Int).toNat).drop (a2 : Int).toNat) := ⟨_, rfl⟩
              replace H : (assessorlaw03_TreeRestores.l1 kj40 l1 a2 a3 l4 x11_2 y653 (y653.length : Int) 0 a0_0 a0_1 a0_2 a0_3 l0_4 t634 t635 t636 t637 t638 t644 t645 t646 t647 t648) = some r := by first | (rw [hy653]; with_reducible exact H) | (have H2_ := (Option.bind_some _ _).symm.trans H; rw [hy653]; with_reducible exact H2_) | (have H2_ := (Option.bind_some _ _).symm.trans H; with_reducible exact H2_) | with_reducible exact H | (rw [hy653]; exact H) | exact H
              have Ny653 := Aside0.mk hy653
              clear hy653
              have H' := Aside0.mk H
              clear H
              have hnb66 := NB652_626.out
              have hnc66 := NB626_652.out
              have hnb67 := NB652_642.out
              have hnc67 := NB642_652.out
              have hcz68_0 : wc.cell? ⟨gb652, 0, none⟩ = some (.int .i64 t644) := (blk_cell BK652.out 0).trans rfl
              have hcz68_1 : wc.cell? ⟨gb652, 1, none⟩ = some (.string t645) := (blk_cell BK652.out 1).trans rfl
              have hcz68_2 : wc.cell? ⟨gb652, 2, none⟩ = some (.int .i64 t646) := (blk_cell BK652.out 2).trans rfl
              have hcz68_3 : wc.cell? ⟨gb652, 3, none⟩ = some (.int .i64 t647) := (blk_cell BK652.out 3).trans rfl
              have hcz68_4 : wc.cell? ⟨gb652, 4, none⟩ = some (.slice Ao55 t648.length co55) := (blk_cell BK652.out 4).trans rfl
              have hfz68_0 := blk_frozen BK652.out 0
              have hfz68_1 := blk_frozen BK652.out 1
              have hfz68_2 := blk_frozen BK652.out 2
              have hfz68_3 := blk_frozen BK652.out 3
              have hfz68_4 := blk_frozen BK652.out 4
              have q69 : (a3 : Int) ≤ ((t648.length : Int) : Int) := of_decide_eq_true (by first | (with_reducible assumption) | assumption)
              obtain ⟨i069, hi069, _, hsz69, _⟩ := info_parts info24
              have hroom69 : t648.length ≤ co55 := (Kd.V_reads' HO_653004.out).2.1
              have hC69 : Kd.F k24 _ _ Ao55 t648.length t648 := (Kd.V_at (base := w.heap.size) HO_653004.out).2.2
              have ql69 : (a2 : Int) ≤ (a3 : Int) := of_decide_eq_true (by first | (with_reducible assumption) | assumption)
              have q069 : (0 : Int) ≤ (a2 : Int) := of_decide_eq_true (by first | (with_reducible assumption) | assumption)
              have hcut69 := cut_mid (P := Try.prog) 22 24 .i64 .i64 Try.underlying22 hi069 5 hsz69 Ao55 t648.length co55 a2 a3 q069 ql69 q69 hroom69
              have hr69 := Kd.F_mid (lo := (a2 : Int).toNat) (hi := (a3 : Int).toNat) (c := co55) hC69 (by omega) (by omega) hroom69
              obtain ⟨A69, hA69⟩ : ∃ A1, A1 = (if co55 = (a2 : Int).toNat then Ao55 else (Ao55 : Option Addr).map (·.add ((a2 : Int).toNat * 5))) := ⟨_, rfl⟩
              obtain ⟨c69, hc69⟩ : ∃ c1, c1 = co55 - (a2 : Int).toNat := ⟨_, rfl⟩
              have hy69 : y653.length = (a3 : Int).toNat - (a2 : Int).toNat := (by rw [Ny653.out, List.length_drop, List.length_take] <;> omega)
              rw [show ((t648).take (a3 : Int).toNat).drop (a2 : Int).toNat = y653 from Ny653.out.symm] at hr69
              replace hr69 : Kd.F k24 _ _ A69 y653.length y653 := (by rw [hA69]; exact hr69)
              rw [← hy69, ← hA69, ← hc69] at hcut69
              have HO657 := Aside0.mk (show Kd.V k24 24 _ w.heap.size _ (.slice A69 y653.length c69) y653 from Kd.V_mk (by rw [hy69, hc69]; exact Nat.sub_le_sub_right (Nat.le_trans (by omega) hroom69) _) hr69)
              have HC657 := Aside0.mk (show y653.length ≤ c69 from by rw [hy69, hc69]; exact Nat.sub_le_sub_right (Nat.le_trans (by omega) hroom69) _)
              clear hr69 hC69 hroom69 hi069 hsz69 hc69
              have KY69 := Aside0.mk hy69
              have KA69 := Aside0.mk hA69
              clear hy69 hA69
              replace q69 := eq_true q69
              go_wp2
              go_loopg [11, 93] kj40 (fun kq v11 v93 w' => ∃ (x11_4 : Int) (x93_4 : Int), v11 = .int .i64 x11_4 ∧ v93 = .int .i64 x93_4 ∧ Aside0 (assessorlaw03_TreeRestores.l1 kq l1 a2 a3 l4 x11_4 y653 (y653.length : Int) x93_4 a0_0 a0_1 a0_2 a0_3 l0_4 t634 t635 t636 t637 t638 t644 t645 t646 t647 t648 = some r) ∧ Aside0 (kq ≤ kj40) ∧ Aside0 (Kd.V k24 24 w' w.heap.size (fun k_ => some k_ ≠ ((.slice Ao47 t638.length co47) : Value).ownBlock ∧ k_ ≠ gb626 ∧ k_ ≠ gb642 ∧ k_ ≠ gb652) (.slice A69 y653.length c69) y653) ∧ Aside0 (Kd.R k24 24 w' w.heap.size (fun k_ => k_ ≠ gb626 ∧ k_ ≠ gb642 ∧ k_ ≠ gb652) (.slice Ao47 t638.length co47) t638) ∧ Aside0 (Kd.V k24 24 w' w.heap.size (fun k_ => some k_ ≠ ((.slice Ao47 t638.length co47) : Value).ownBlock ∧ k_ ≠ gb626 ∧ k_ ≠ gb642 ∧ k_ ≠ gb652) (.slice Ao55 t648.length co55) t648) ∧ Aside0 (w'.heap[gb626]? = some (.cells #[.int .i64 a0_0, .string a0_1, .int .i64 a0_2, .int .i64 a0_3, (.slice A0_4 l0_4.length c0_4)] 24 (0, 0))) ∧ Aside0 (w'.heap[gb642]? = some (.cells #[.int .i64 t634, .string t635, .int .i64 t636, .int .i64 t637, (.slice Ao47 t638.length co47)] 24 (0, 0))) ∧ Aside0 (w'.heap[gb652]? = some (.cells #[.int .i64 t644, .string t645, .int .i64 t646, .int .i64 t647, (.slice Ao55 t648.length co55)] 24 (0, 0))) ∧ Aside0 (Below w.heap.size w w'))
              case atStart => exact ⟨(x11_2), (0), (by first | rfl | (simp; done) | (simp [*]; done)), (by first | rfl | (simp; done) | (simp [*]; done)), H', ⟨Nat.le_refl _⟩, ⟨by (with_reducible repeat (first | apply Kd.V_alloc | apply Kd.V_drewN | apply Kd.V_drew)); exact HO657.out⟩, ⟨by (with_reducible repeat (first | apply Kd.R_alloc | apply Kd.R_drewN | apply Kd.R_drew)); exact HO_643004.out⟩, ⟨by (with_reducible repeat (first | apply Kd.V_alloc | apply Kd.V_drewN | apply Kd.V_drew)); exact HO_653004.out⟩, ⟨by (with_reducible repeat (first | apply blk_drewN | apply blk_drew | apply blk_alloc)); exact BK626.out⟩, ⟨by (with_reducible repeat (first | apply blk_drewN | apply blk_drew | apply blk_alloc)); exact BK642.out⟩, ⟨by (with_reducible repeat (first | apply blk_drewN | apply blk_drew | apply blk_alloc)); exact BK652.out⟩, ⟨by repeat (first | (with_reducible first | exact HB.out | apply below_alloc | apply pw_below_drewN | apply below_drew1 | refine below_set ?_ GE626.out | refine below_set ?_ GE642.out | refine below_set ?_ GE652.out) | exact HB.out)⟩⟩
              case round =>
               clear H'
               try clear c1
               try clear c2
               try clear p2
               try clear c3
               try clear c4
               try clear c5
               try clear c6
               try clear p6
               try clear q6
               try clear hx6
               try clear c9
               try clear c10
               try clear c10b0
               try clear c10b1
               try clear c11
               try clear c17
               try clear c20
               try clear c20b0
               try clear c21
               try clear c21b0
               try clear c22
               try clear c22b0
               try clear c24
               try clear c27
               try clear c32
               try clear c34
               try clear c37
               try clear c39
               try clear c39b0
               try clear c39b1
               try clear c45
               try clear c52
               try clear c53
               try clear c56
               try clear c57
               try clear c57b0
               try clear c58
               try clear c58b0
               try clear c59
               try clear c60
               try clear c62
               try clear p62
               try clear q62
               try clear hx62
               try clear c63
               try clear c63b0
               try clear c63b1
               try clear c64
               try clear c64b0
               try clear c64b1
               try clear p64
               try clear c65
               try clear c65b0
               try clear c65b1
               try clear c66
               try clear c67
               try clear c69
               try clear q69
               try clear hcz11_0
               try clear hcz11_1
               try clear hcz11_2
               try clear hcz11_3
               try clear hcz11_4
               try clear hcz13_0
               try clear hcz13_1
               try clear hcz13_2
               try clear hcz13_3
               try clear hcz13_4
               try clear hcz15_0
               try clear hcz15_1
               try clear hcz15_2
               try clear hcz15_3
               try clear hcz15_4
               try clear hcz28_0
               try clear hcz28_1
               try clear hcz28_2
               try clear hcz28_3
               try clear hcz28_4
               try clear hcz30_0
               try clear hcz30_1
               try clear hcz30_2
               try clear hcz30_3
               try clear hcz30_4
               try clear hcz35_0
               try clear hcz35_1
               try clear hcz35_2
               try clear hcz35_3
               try clear hcz35_4
               try clear hcz42_0
               try clear hcz42_1
               try clear hcz42_2
               try clear hcz42_3
               try clear hcz42_4
               try clear hcz46_0
               try clear hcz46_1
               try clear hcz46_2
               try clear hcz46_3
               try clear hcz46_4
               try clear hcz49_0
               try clear hcz49_1
               try clear hcz49_2
               try clear hcz49_3
               try clear hcz49_4
               try clear hcz54_0
               try clear hcz54_1
               try clear hcz54_2
               try clear hcz54_3
               try clear hcz54_4
               try clear hcz61_0
               try clear hcz61_1
               try clear hcz61_2
               try clear hcz61_3
               try clear hcz61_4
               try clear hcz68_0
               try clear hcz68_1
               try clear hcz68_2
               try clear hcz68_3
               try clear hcz68_4
               try clear hfz11_0
               try clear hfz11_1
               try clear hfz11_2
               try clear hfz11_3
               try clear hfz11_4
               try clear hfz13_0
               try clear hfz13_1
               try clear hfz13_2
               try clear hfz13_3
               try clear hfz13_4
               try clear hfz15_0
               try clear hfz15_1
               try clear hfz15_2
               try clear hfz15_3
               try clear hfz15_4
               try clear hfz28_0
               try clear hfz28_1
               try clear hfz28_2
               try clear hfz28_3
               try clear hfz28_4
               try clear hfz30_0
               try clear hfz30_1
               try clear hfz30_2
               try clear hfz30_3
               try clear hfz30_4
               try clear hfz35_0
               try clear hfz35_1
               try clear hfz35_2
               try clear hfz35_3
               try clear hfz35_4
               try clear hfz42_0
               try clear hfz42_1
               try clear hfz42_2
               try clear hfz42_3
               try clear hfz42_4
               try clear hfz46_0
               try clear hfz46_1
               try clear hfz46_2
               try clear hfz46_3
               try clear hfz46_4
               try clear hfz49_0
               try clear hfz49_1
               try clear hfz49_2
               try clear hfz49_3
               try clear hfz49_4
               try clear hfz54_0
               try clear hfz54_1
               try clear hfz54_2
               try clear hfz54_3
               try clear hfz54_4
               try clear hfz61_0
               try clear hfz61_1
               try clear hfz61_2
               try clear hfz61_3
               try clear hfz61_4
               try clear hfz68_0
               try clear hfz68_1
               try clear hfz68_2
               try clear hfz68_3
               try clear hfz68_4
               try clear hx629_0
               try clear hx629_1
               try clear hx629_2
               try clear hx629_3
               try clear hx629_4
               try clear p2
               try clear p6
               try clear p629
               try clear q069
               try clear q6
               try clear q629
               try clear q69
               obtain ⟨x11_4, x93_4, rfl, rfl, HA, HK4, HO_91, HO_643004, HO_653004, BK626, BK642, BK652, HB⟩ := hrel
               cases gk with
               | zero => exact absurd HA.out (by simp [assessorlaw03_TreeRestores.l1])
               | succ k4 =>
                have H := HA.out
                clear HA
                simp only [assessorlaw03_TreeRestores.l1] at H
                by_cases c70 : x93_4 < (y653.length : Int)
                ·rw [if_pos c70] at H
                 have c70b0 : decide (x93_4 < (y653.length : Int)) = true := decide_eq_true c70
                 clear c70
                 by_cases c71 : 0 ≤ x93_4
                 ·rw [if_pos c71] at H
                  have c71b0 : decide (0 ≤ x93_4) = true := decide_eq_true c71
                  clear c71
                  by_cases c72 : x93_4 < (y653.length : Int)
                  ·rw [if_pos c72] at H
                   have c72b0 : decide (x93_4 < (y653.length : Int)) = true := decide_eq_true c72
                   clear c72
                   replace H := Option.bind_eq_some_iff.mp H
                   obtain ⟨t660, A730, H⟩ := H
                   replace H : (assessorlaw03_TreeRestores.l1 k4 l1 a2 a3 l4 (wrap64 (x11_4 - t660)) y653 (y653.length : Int) (wrap64 (x93_4 + 1)) a0_0 a0_1 a0_2 a0_3 l0_4 t634 t635 t636 t637 t638 t644 t645 t646 t647 t648) = some r := H
                   have A73 := Aside0.mk A730
                   clear A730
                   have H' := Aside0.mk H
                   clear H
                   have p658 : 0 ≤ (x93_4 : Int) := of_decide_eq_true (by first | (with_reducible assumption) | assumption)
                   have q658 : x93_4 < (y653.length : Int) := of_decide_eq_true (by first | (with_reducible assumption) | assumption)
                   obtain ⟨ad658, A658_4, c658_4, e658, hx658_0, hx658_1, hx658_2, hx658_3, hx658_4, hl658_4, hi658_4⟩ := at_T24 (Kd.V_reads' HO_91.out).2.2 x93_4 p658 q658
                   cases e658
                   obtain ⟨ce658, hce658, hMe658, hcc658⟩ := Kd.V_get HO_91.out z24 x93_4 p658 (by first | exact q658 | exact of_decide_eq_true (by first | (with_reducible assumption) | assumption) | (have e_ := (Kd.V_reads' HO_91.out).1; omega))
                   obtain ⟨ua658_4, uc658_4, rfl, ul658_4, ge658_4⟩ := k24_openF hMe658
                   have hv658_4 := hcc658 4 _ rfl
                   rw [add_field _ _ 4 (by omega)] at hv658_4
                   replace hv658_4 := Option.some.inj (hv658_4.symm.trans hx658_4)
                   injection hv658_4 with hva_ hvn_ hvc_
                   rw [hva_] at ge658_4
                   rw [hvc_] at ul658_4
                   have HL658_4 := Aside0.mk (show Kd.V k24 24 _ w.heap.size _ _ ((rd_T24 y653 x93_4).f4) from Kd.V_mk ul658_4 ge658_4)
                   clear hva_ hvn_ hvc_ ge658_4 ul658_4
                   clear hcc658 hce658
                   have HR658_4 := Aside0.mk hi658_4
                   have HC658_4 := Aside0.mk hl658_4
                   clear hi658_4 hl658_4
                   replace p658 := eq_true p658
                   replace q658 := eq_true q658
                   go_wp2_with (first | ((with_reducible refine gate_dst (N := 19) rfl ?_); (try (refine gate_guard (by rfl) ?_; dsimp only)); refine box_event ?hg (N := 19) ?hd (cs := #[.int .i64 0, .string (⟨#[]⟩ : ByteArray), .int .i64 0, .int .i64 0, .slice none 0 0]) (t := 24) ?hr ?_; (case hd => rfl); (case hg => rfl); (case hr => first | (go_simp; done) | (go_simp; rfl)); intro gb659 hg w74 hbox hb; have n0_ := Aside0.mk (Kd.V_below (Kd.V_elderB (by (with_reducible repeat (first | apply Kd.V_alloc | apply Kd.V_drewN | apply Kd.V_drew)); exact HO_91.out) gb659 (Nat.le_of_eq hg.symm)) hb); have n1_ := Aside0.mk (Kd.R_below (Kd.R_elderB (by (with_reducible repeat (first | apply Kd.R_alloc | apply Kd.R_drewN | apply Kd.R_drew)); exact HO_643004.out) gb659 (Nat.le_of_eq hg.symm)) hb); have n2_ := Aside0.mk (Kd.V_below (Kd.V_elderB (by (with_reducible repeat (first | apply Kd.V_alloc | apply Kd.V_drewN | apply Kd.V_drew)); exact HO_653004.out) gb659 (Nat.le_of_eq hg.symm)) hb); have n3_ := Aside0.mk (Kd.V_below (Kd.V_elderB (by (with_reducible repeat (first | apply Kd.V_alloc | apply Kd.V_drewN | apply Kd.V_drew)); exact HL658_4.out) gb659 (Nat.le_of_eq hg.symm)) hb); have n4_ := Aside0.mk (blk_below (g := gb626) (o := .cells #[.int .i64 a0_0, .string a0_1, .int .i64 a0_2, .int .i64 a0_3, .slice A0_4 l0_4.length c0_4] 24 (0, 0)) (by (with_reducible repeat (first | apply blk_drewN | apply blk_drew | apply blk_alloc)); exact BK626.out) hb); have n5_ := Aside0.mk (blk_below (g := gb642) (o := .cells #[.int .i64 t634, .string t635, .int .i64 t636, .int .i64 t637, .slice Ao47 t638.length co47] 24 (0, 0)) (by (with_reducible repeat (first | apply blk_drewN | apply blk_drew | apply blk_alloc)); exact BK642.out) hb); have n6_ := Aside0.mk (blk_below (g := gb652) (o := .cells #[.int .i64 t644, .string t645, .int .i64 t646, .int .i64 t647, .slice Ao55 t648.length co55] 24 (0, 0)) (by (with_reducible repeat (first | apply blk_drewN | apply blk_drew | apply blk_alloc)); exact BK652.out) hb); have n7_ := Aside0.mk (Kd.C_below (by repeat (first | (with_reducible exact HR658_4.out) | (with_reducible refine Kd.C_alloc ?_ _) | (with_reducible refine Kd.C_drewN ?_ _) | (with_reducible refine Kd.C_drew ?_) | exact HR658_4.out)) hb); have n8_ := Aside0.mk (below_step (by repeat (first | (with_reducible first | exact HB.out | apply below_alloc | apply pw_below_drewN | apply below_drew1 | refine below_set ?_ GE626.out | refine below_set ?_ GE642.out | refine below_set ?_ GE652.out) | exact HB.out)) hb); have n9_ := Aside0.mk (hbox); have n10_ := Aside0.mk ((by rw [hg]; exact (below_size (by repeat (first | (with_reducible first | exact HB.out | apply below_alloc | apply pw_below_drewN | apply below_drew1 | refine below_set ?_ GE626.out | refine below_set ?_ GE642.out | refine below_set ?_ GE652.out) | exact HB.out))) : w.heap.size ≤ gb659)); have n11_ := Aside0.mk ((by rw [hg]; exact (below_size (by repeat (first | (with_reducible first | exact HB.out | apply below_alloc | apply pw_below_drewN | apply below_drew1 | refine below_set ?_ GE626.out | refine below_set ?_ GE642.out | refine below_set ?_ GE652.out) | exact HB.out))) : w.heap.size ≤ gb659)); have n12_ := Aside0.mk ((by rw [hg]; exact Nat.ne_of_lt (blk_lt (g := gb626) (o := .cells #[.int .i64 a0_0, .string a0_1, .int .i64 a0_2, .int .i64 a0_3, .slice A0_4 l0_4.length c0_4] 24 (0, 0)) (by (with_reducible repeat (first | apply blk_drewN | apply blk_drew | apply blk_alloc)); exact BK626.out)) : gb626 ≠ gb659)); have n13_ := Aside0.mk ((by rw [hg]; exact Nat.ne_of_gt (blk_lt (g := gb626) (o := .cells #[.int .i64 a0_0, .string a0_1, .int .i64 a0_2, .int .i64 a0_3, .slice A0_4 l0_4.length c0_4] 24 (0, 0)) (by (with_reducible repeat (first | apply blk_drewN | apply blk_drew | apply blk_alloc)); exact BK626.out)) : gb659 ≠ gb626)); have n14_ := Aside0.mk ((by rw [hg]; exact Nat.ne_of_lt (blk_lt (g := gb642) (o := .cells #[.int .i64 t634, .string t635, .int .i64 t636, .int .i64 t637, .slice Ao47 t638.length co47] 24 (0, 0)) (by (with_reducible repeat (first | apply blk_drewN | apply blk_drew | apply blk_alloc)); exact BK642.out)) : gb642 ≠ gb659)); have n15_ := Aside0.mk ((by rw [hg]; exact Nat.ne_of_gt (blk_lt (g := gb642) (o := .cells #[.int .i64 t634, .string t635, .int .i64 t636, .int .i64 t637, .slice Ao47 t638.length co47] 24 (0, 0)) (by (with_reducible repeat (first | apply blk_drewN | apply blk_drew | apply blk_alloc)); exact BK642.out)) : gb659 ≠ gb642)); have n16_ := Aside0.mk ((by rw [hg]; exact Nat.ne_of_lt (blk_lt (g := gb652) (o := .cells #[.int .i64 t644, .string t645, .int .i64 t646, .int .i64 t647, .slice Ao55 t648.length co55] 24 (0, 0)) (by (with_reducible repeat (first | apply blk_drewN | apply blk_drew | apply blk_alloc)); exact BK652.out)) : gb652 ≠ gb659)); have n17_ := Aside0.mk ((by rw [hg]; exact Nat.ne_of_gt (blk_lt (g := gb652) (o := .cells #[.int .i64 t644, .string t645, .int .i64 t646, .int .i64 t647, .slice Ao55 t648.length co55] 24 (0, 0)) (by (with_reducible repeat (first | apply blk_drewN | apply blk_drew | apply blk_alloc)); exact BK652.out)) : gb659 ≠ gb652)); clear HO_91; clear HO_643004; clear HO_653004; clear HL658_4; clear BK626; clear BK642; clear BK652; clear HR658_4; clear HB; have HO_91 := n0_; have HO_643004 := n1_; have HO_653004 := n2_; have HL658_4 := n3_; have BK626 := n4_; have BK642 := n5_; have BK652 := n6_; have HR658_4 := n7_; have HB := n8_; have BK659 := n9_; have GW659 := n10_; have GE659 := n11_; have NB626_659 := n12_; have NB659_626 := n13_; have NB642_659 := n14_; have NB659_642 := n15_; have NB652_659 := n16_; have NB659_652 := n17_; clear n0_ n1_ n2_ n3_ n4_ n5_ n6_ n7_ n8_ n9_ n10_ n11_ n12_ n13_ n14_ n15_ n16_ n17_; clear hb hbox hg; have hnb75 := NB659_626.out; have hnc75 := NB626_659.out; have hnb76 := NB659_642.out; have hnc76 := NB642_659.out; have hnb77 := NB659_652.out; have hnc77 := NB652_659.out; have hcz78_0 : w74.cell? ⟨gb659, 0, none⟩ = some (.int .i64 0) := (blk_cell BK659.out 0).trans rfl; have hcz78_1 : w74.cell? ⟨gb659, 1, none⟩ = some (.string (⟨#[]⟩ : ByteArray)) := (blk_cell BK659.out 1).trans rfl; have hcz78_2 : w74.cell? ⟨gb659, 2, none⟩ = some (.int .i64 0) := (blk_cell BK659.out 2).trans rfl; have hcz78_3 : w74.cell? ⟨gb659, 3, none⟩ = some (.int .i64 0) := (blk_cell BK659.out 3).trans rfl; have hcz78_4 : w74.cell? ⟨gb659, 4, none⟩ = some (.slice none 0 0) := (blk_cell BK659.out 4).trans rfl; have hfz78_0 := blk_frozen BK659.out 0; have hfz78_1 := blk_frozen BK659.out 1; have hfz78_2 := blk_frozen BK659.out 2; have hfz78_3 := blk_frozen BK659.out 3; have hfz78_4 := blk_frozen BK659.out 4) | ((with_reducible refine gate_callee (f := 32) rfl ?_); refine goesL_ (some 99) rfl rfl Try.func32 (by kernel_rfl) rfl #[.agg #[.int .i64 ((rd_T24 y653 x93_4).f0), .string ((rd_T24 y653 x93_4).f1), .int .i64 ((rd_T24 y653 x93_4).f2), .int .i64 ((rd_T24 y653 x93_4).f3), .slice A658_4 ((rd_T24 y653 x93_4).f4).length c658_4]] rfl (by (try simp only [List.map_toArray, List.map_cons, List.map_nil]); first | done | rfl | (simp only [List.length_drop, List.length_take]; rfl)) ?_; (with_reducible refine (assessorref03_Count.calls k4 ((rd_T24 y653 x93_4).f0) ((rd_T24 y653 x93_4).f1) ((rd_T24 y653 x93_4).f2) ((rd_T24 y653 x93_4).f3) _ _ ((rd_T24 y653 x93_4).f4) t660 _ ?side1 ?side2 A73.out).mono ?_); (case side1 => repeat (first | exact ((Kd.V_reads' (by (with_reducible repeat (first | apply Kd.V_alloc | apply Kd.V_drewN | apply Kd.V_drew)); exact (Kd.V_mono (Kd.V_far (p := ⟨gb659, 4, none⟩) (Kd.V_far (p := ⟨gb659, 3, none⟩) (Kd.V_far (p := ⟨gb659, 2, none⟩) (Kd.V_far (p := ⟨gb659, 1, none⟩) (Kd.V_far (p := ⟨gb659, 0, none⟩) (Kd.V_mono HL658_4.out (fun k_ hk => (⟨hk, hk.2⟩ : _ ∧ k_ ≠ gb659))) (fun _ hk => hk.2) (.int .i64 ((rd_T24 y653 x93_4).f0))) (fun _ hk => hk.2) (.string ((rd_T24 y653 x93_4).f1))) (fun _ hk => hk.2) (.int .i64 ((rd_T24 y653 x93_4).f2))) (fun _ hk => hk.2) (.int .i64 ((rd_T24 y653 x93_4).f3))) (fun _ hk => hk.2) (.slice A658_4 ((rd_T24 y653 x93_4).f4).length c658_4)) (fun _ h_ => h_.1)))).2.2) | (with_reducible refine Kd.C_alloc ?_ _) | (with_reducible refine Kd.C_drewN ?_ _) | (with_reducible refine Kd.C_drew ?_))); (case side2 => exact HC658_4.out); rintro e w79 ⟨rfl, hb⟩; refine ⟨_, rfl, ?_⟩; have n0_ := Aside0.mk (Kd.V_below (by (with_reducible repeat (first | apply Kd.V_alloc | apply Kd.V_drewN | apply Kd.V_drew)); exact (Kd.V_mono (Kd.V_far (p := ⟨gb659, 4, none⟩) (Kd.V_far (p := ⟨gb659, 3, none⟩) (Kd.V_far (p := ⟨gb659, 2, none⟩) (Kd.V_far (p := ⟨gb659, 1, none⟩) (Kd.V_far (p := ⟨gb659, 0, none⟩) (Kd.V_mono HO_91.out (fun k_ hk => (⟨hk, hk.2⟩ : _ ∧ k_ ≠ gb659))) (fun _ hk => hk.2) (.int .i64 ((rd_T24 y653 x93_4).f0))) (fun _ hk => hk.2) (.string ((rd_T24 y653 x93_4).f1))) (fun _ hk => hk.2) (.int .i64 ((rd_T24 y653 x93_4).f2))) (fun _ hk => hk.2) (.int .i64 ((rd_T24 y653 x93_4).f3))) (fun _ hk => hk.2) (.slice A658_4 ((rd_T24 y653 x93_4).f4).length c658_4)) (fun _ h_ => h_.1))) hb); have n1_ := Aside0.mk (Kd.R_below (by (with_reducible repeat (first | apply Kd.R_alloc | apply Kd.R_drewN | apply Kd.R_drew)); exact (Kd.R_mono (Kd.R_far (p := ⟨gb659, 4, none⟩) (Kd.R_far (p := ⟨gb659, 3, none⟩) (Kd.R_far (p := ⟨gb659, 2, none⟩) (Kd.R_far (p := ⟨gb659, 1, none⟩) (Kd.R_far (p := ⟨gb659, 0, none⟩) (Kd.R_mono HO_643004.out (fun k_ hk => (⟨hk, hk.2⟩ : _ ∧ k_ ≠ gb659))) (fun _ hk => hk.2) (.int .i64 ((rd_T24 y653 x93_4).f0))) (fun _ hk => hk.2) (.string ((rd_T24 y653 x93_4).f1))) (fun _ hk => hk.2) (.int .i64 ((rd_T24 y653 x93_4).f2))) (fun _ hk => hk.2) (.int .i64 ((rd_T24 y653 x93_4).f3))) (fun _ hk => hk.2) (.slice A658_4 ((rd_T24 y653 x93_4).f4).length c658_4)) (fun _ h_ => h_.1))) hb); have n2_ := Aside0.mk (Kd.V_below (by (with_reducible repeat (first | apply Kd.V_alloc | apply Kd.V_drewN | apply Kd.V_drew)); exact (Kd.V_mono (Kd.V_far (p := ⟨gb659, 4, none⟩) (Kd.V_far (p := ⟨gb659, 3, none⟩) (Kd.V_far (p := ⟨gb659, 2, none⟩) (Kd.V_far (p := ⟨gb659, 1, none⟩) (Kd.V_far (p := ⟨gb659, 0, none⟩) (Kd.V_mono HO_653004.out (fun k_ hk => (⟨hk, hk.2⟩ : _ ∧ k_ ≠ gb659))) (fun _ hk => hk.2) (.int .i64 ((rd_T24 y653 x93_4).f0))) (fun _ hk => hk.2) (.string ((rd_T24 y653 x93_4).f1))) (fun _ hk => hk.2) (.int .i64 ((rd_T24 y653 x93_4).f2))) (fun _ hk => hk.2) (.int .i64 ((rd_T24 y653 x93_4).f3))) (fun _ hk => hk.2) (.slice A658_4 ((rd_T24 y653 x93_4).f4).length c658_4)) (fun _ h_ => h_.1))) hb); have n3_ := Aside0.mk (Kd.V_below (by (with_reducible repeat (first | apply Kd.V_alloc | apply Kd.V_drewN | apply Kd.V_drew)); exact (Kd.V_mono (Kd.V_far (p := ⟨gb659, 4, none⟩) (Kd.V_far (p := ⟨gb659, 3, none⟩) (Kd.V_far (p := ⟨gb659, 2, none⟩) (Kd.V_far (p := ⟨gb659, 1, none⟩) (Kd.V_far (p := ⟨gb659, 0, none⟩) (Kd.V_mono HL658_4.out (fun k_ hk => (⟨hk, hk.2⟩ : _ ∧ k_ ≠ gb659))) (fun _ hk => hk.2) (.int .i64 ((rd_T24 y653 x93_4).f0))) (fun _ hk => hk.2) (.string ((rd_T24 y653 x93_4).f1))) (fun _ hk => hk.2) (.int .i64 ((rd_T24 y653 x93_4).f2))) (fun _ hk => hk.2) (.int .i64 ((rd_T24 y653 x93_4).f3))) (fun _ hk => hk.2) (.slice A658_4 ((rd_T24 y653 x93_4).f4).length c658_4)) (fun _ h_ => h_.1))) hb); have n4_ := Aside0.mk (blk_below (g := gb626) (o := .cells #[.int .i64 a0_0, .string a0_1, .int .i64 a0_2, .int .i64 a0_3, .slice A0_4 l0_4.length c0_4] 24 (0, 0)) (by (with_reducible repeat (first | apply blk_drewN | apply blk_drew | apply blk_alloc)); refine blk_far ?_ NB626_659.out _; (with_reducible repeat (first | apply blk_drewN | apply blk_drew | apply blk_alloc)); refine blk_far ?_ NB626_659.out _; (with_reducible repeat (first | apply blk_drewN | apply blk_drew | apply blk_alloc)); refine blk_far ?_ NB626_659.out _; (with_reducible repeat (first | apply blk_drewN | apply blk_drew | apply blk_alloc)); refine blk_far ?_ NB626_659.out _; (with_reducible repeat (first | apply blk_drewN | apply blk_drew | apply blk_alloc)); refine blk_far ?_ NB626_659.out _; (with_reducible repeat (first | apply blk_drewN | apply blk_drew | apply blk_alloc)); exact BK626.out) hb); have n5_ := Aside0.mk (blk_below (g := gb642) (o := .cells #[.int .i64 t634, .string t635, .int .i64 t636, .int .i64 t637, .slice Ao47 t638.length co47] 24 (0, 0)) (by (with_reducible repeat (first | apply blk_drewN | apply blk_drew | apply blk_alloc)); refine blk_far ?_ NB642_659.out _; (with_reducible repeat (first | apply blk_drewN | apply blk_drew | apply blk_alloc)); refine blk_far ?_ NB642_659.out _; (with_reducible repeat (first | apply blk_drewN | apply blk_drew | apply blk_alloc)); refine blk_far ?_ NB642_659.out _; (with_reducible repeat (first | apply blk_drewN | apply blk_drew | apply blk_alloc)); refine blk_far ?_ NB642_659.out _; (with_reducible repeat (first | apply blk_drewN | apply blk_drew | apply blk_alloc)); refine blk_far ?_ NB642_659.out _; (with_reducible repeat (first | apply blk_drewN | apply blk_drew | apply blk_alloc)); exact BK642.out) hb); have n6_ := Aside0.mk (blk_below (g := gb652) (o := .cells #[.int .i64 t644, .string t645, .int .i64 t646, .int .i64 t647, .slice Ao55 t648.length co55] 24 (0, 0)) (by (with_reducible repeat (first | apply blk_drewN | apply blk_drew | apply blk_alloc)); refine blk_far ?_ NB652_659.out _; (with_reducible repeat (first | apply blk_drewN | apply blk_drew | apply blk_alloc)); refine blk_far ?_ NB652_659.out _; (with_reducible repeat (first | apply blk_drewN | apply blk_drew | apply blk_alloc)); refine blk_far ?_ NB652_659.out _; (with_reducible repeat (first | apply blk_drewN | apply blk_drew | apply blk_alloc)); refine blk_far ?_ NB652_659.out _; (with_reducible repeat (first | apply blk_drewN | apply blk_drew | apply blk_alloc)); refine blk_far ?_ NB652_659.out _; (with_reducible repeat (first | apply blk_drewN | apply blk_drew | apply blk_alloc)); exact BK652.out) hb); have n7_ := Aside0.mk (Kd.C_below ((Kd.V_reads' (by (with_reducible repeat (first | apply Kd.V_alloc | apply Kd.V_drewN | apply Kd.V_drew)); exact (Kd.V_mono (Kd.V_far (p := ⟨gb659, 4, none⟩) (Kd.V_far (p := ⟨gb659, 3, none⟩) (Kd.V_far (p := ⟨gb659, 2, none⟩) (Kd.V_far (p := ⟨gb659, 1, none⟩) (Kd.V_far (p := ⟨gb659, 0, none⟩) (Kd.V_mono HL658_4.out (fun k_ hk => (⟨hk, hk.2⟩ : _ ∧ k_ ≠ gb659))) (fun _ hk => hk.2) (.int .i64 ((rd_T24 y653 x93_4).f0))) (fun _ hk => hk.2) (.string ((rd_T24 y653 x93_4).f1))) (fun _ hk => hk.2) (.int .i64 ((rd_T24 y653 x93_4).f2))) (fun _ hk => hk.2) (.int .i64 ((rd_T24 y653 x93_4).f3))) (fun _ hk => hk.2) (.slice A658_4 ((rd_T24 y653 x93_4).f4).length c658_4)) (fun _ h_ => h_.1)))).2.2) hb); have n8_ := Aside0.mk (blk_below (g := gb659) (o := .cells #[.int .i64 ((rd_T24 y653 x93_4).f0), .string ((rd_T24 y653 x93_4).f1), .int .i64 ((rd_T24 y653 x93_4).f2), .int .i64 ((rd_T24 y653 x93_4).f3), .slice A658_4 ((rd_T24 y653 x93_4).f4).length c658_4] 24 (0, 0)) (by (with_reducible repeat (first | apply blk_drewN | apply blk_drew | apply blk_alloc)); refine blk_put (cs := #[.int .i64 ((rd_T24 y653 x93_4).f0), .string ((rd_T24 y653 x93_4).f1), .int .i64 ((rd_T24 y653 x93_4).f2), .int .i64 ((rd_T24 y653 x93_4).f3), .slice none 0 0]) ?_ 4 _ rfl; (with_reducible repeat (first | apply blk_drewN | apply blk_drew | apply blk_alloc)); refine blk_put (cs := #[.int .i64 ((rd_T24 y653 x93_4).f0), .string ((rd_T24 y653 x93_4).f1), .int .i64 ((rd_T24 y653 x93_4).f2), .int .i64 0, .slice none 0 0]) ?_ 3 _ rfl; (with_reducible repeat (first | apply blk_drewN | apply blk_drew | apply blk_alloc)); refine blk_put (cs := #[.int .i64 ((rd_T24 y653 x93_4).f0), .string ((rd_T24 y653 x93_4).f1), .int .i64 0, .int .i64 0, .slice none 0 0]) ?_ 2 _ rfl; (with_reducible repeat (first | apply blk_drewN | apply blk_drew | apply blk_alloc)); refine blk_put (cs := #[.int .i64 ((rd_T24 y653 x93_4).f0), .string (⟨#[]⟩ : ByteArray), .int .i64 0, .int .i64 0, .slice none 0 0]) ?_ 1 _ rfl; (with_reducible repeat (first | apply blk_drewN | apply blk_drew | apply blk_alloc)); refine blk_put (cs := #[.int .i64 0, .string (⟨#[]⟩ : ByteArray), .int .i64 0, .int .i64 0, .slice none 0 0]) ?_ 0 _ rfl; (with_reducible repeat (first | apply blk_drewN | apply blk_drew | apply blk_alloc)); exact BK659.out) hb); have n9_ := Aside0.mk (below_step (by repeat (first | (with_reducible first | exact HB.out | apply below_alloc | apply pw_below_drewN | apply below_drew1 | refine below_set ?_ GE626.out | refine below_set ?_ GE642.out | refine below_set ?_ GE652.out | refine below_set ?_ GE659.out) | exact HB.out)) hb); clear HO_91; clear HO_643004; clear HO_653004; clear HL658_4; clear BK626; clear BK642; clear BK652; clear HR658_4; clear BK659; clear HB; have HO_91 := n0_; have HO_643004 := n1_; have HO_653004 := n2_; have HL658_4 := n3_; have BK626 := n4_; have BK642 := n5_; have BK652 := n6_; have HR658_4 := n7_; have BK659 := n8_; have HB := n9_; clear n0_ n1_ n2_ n3_ n4_ n5_ n6_ n7_ n8_ n9_; (try clear hb); (try clear hb2); (try clear hk); (try clear hi)))
                   go_roundg k4
                   case measure => have := HJ5.out; have := HK2.out; have := HJ40.out; have := HK4.out; omega
                   case rel => exact ⟨(wrap64 (x11_4 - t660)), (wrap64 (x93_4 + 1)), (by first | rfl | (simp; done) | (simp [*]; done)), (by first | rfl | (simp; done) | (simp [*]; done)), H', ⟨by have := HJ5.out; have := HK2.out; have := HJ40.out; have := HK4.out; omega⟩, ⟨by (with_reducible repeat (first | apply Kd.V_alloc | apply Kd.V_drewN | apply Kd.V_drew)); exact Kd.V_mono HO_91.out (fun _ hk => ⟨hk.1.1, ⟨hk.1.2.1, ⟨hk.1.2.2.1, hk.1.2.2.2⟩⟩⟩)⟩, ⟨by (with_reducible repeat (first | apply Kd.R_alloc | apply Kd.R_drewN | apply Kd.R_drew)); exact Kd.R_mono HO_643004.out (fun _ hk => ⟨hk.1.1, ⟨hk.1.2.1, hk.1.2.2⟩⟩)⟩, ⟨by (with_reducible repeat (first | apply Kd.V_alloc | apply Kd.V_drewN | apply Kd.V_drew)); exact Kd.V_mono HO_653004.out (fun _ hk => ⟨hk.1.1, ⟨hk.1.2.1, ⟨hk.1.2.2.1, hk.1.2.2.2⟩⟩⟩)⟩, ⟨by (with_reducible repeat (first | apply blk_drewN | apply blk_drew | apply blk_alloc)); exact BK626.out⟩, ⟨by (with_reducible repeat (first | apply blk_drewN | apply blk_drew | apply blk_alloc)); exact BK642.out⟩, ⟨by (with_reducible repeat (first | apply blk_drewN | apply blk_drew | apply blk_alloc)); exact BK652.out⟩, ⟨by repeat (first | (with_reducible first | exact HB.out | apply below_alloc | apply pw_below_drewN | apply below_drew1 | refine below_set ?_ GE626.out | refine below_set ?_ GE642.out | refine below_set ?_ GE652.out | refine below_set ?_ GE659.out) | exact HB.out)⟩⟩
                  ·rw [if_neg c72] at H
                   exact absurd H (by simp)
                 ·rw [if_neg c71] at H
                  exact absurd H (by simp)
                ·rw [if_neg c70] at H
                 have c70b0 : decide (x93_4 < (y653.length : Int)) = false := decide_eq_false c70
                 clear c70
                 by_cases c80 : 0 ≤ a2
                 ·rw [if_pos c80] at H
                  have c80b0 := eq_true c80
                  have c80b1 : decide (0 ≤ a2) = true := decide_eq_true c80
                  clear c80
                  by_cases c81 : a2 ≤ a3
                  ·rw [if_pos c81] at H
                   have c81b0 := eq_true c81
                   have c81b1 : decide (a2 ≤ a3) = true := decide_eq_true c81
                   clear c81
                   by_cases c82 : a3 ≤ (t648.length : Int)
                   ·rw [if_pos c82] at H
                    have c82b0 := eq_true c82
                    have c82b1 : decide (a3 ≤ (t648.length : Int)) = true := decide_eq_true c82
                    clear c82
                    obtain ⟨y661, hy661⟩ : ∃ y_ : List (S24), y_ = ((t648.take (a3 : Int).toNat).drop (a2 : Int).toNat) := ⟨_, rfl⟩
                    replace H : ((tree_Replace.f k4 t634 t635 t636 t637 t638 l1 a2 (wrap64 (a2 + (l4.length : Int))) y661).bind fun bt666 => (if bt666.2.2.2.2.2 = 0 then ((assessorref03_Equal.f k4 bt666.1 bt666.2.1 bt666.2.2.1 bt666.2.2.2.1 bt666.2.2.2.2.1 a0_0 a0_1 a0_2 a0_3 l0_4).bind fun t675 => (if t675 = true then ((tree_Count.f t634 t635 t636 t637 t638).bind fun t676 => ((tree_Count.f a0_0 a0_1 a0_2 a0_3 l0_4).bind fun t677 => (if t676 = (wrap64 (t677 + x11_4)) then ((assessorlaw03_awake.f k4).bind fun t678 => (some t678)) else (none)))) else (none))) else (none))) = some r := by first | (rw [hy661]; with_reducible exact H) | (have H2_ := (Option.bind_some _ _).symm.trans H; rw [hy661]; with_reducible exact H2_) | (have H2_ := (Option.bind_some _ _).symm.trans H; with_reducible exact H2_) | with_reducible exact H | (rw [hy661]; exact H) | exact H
                    have Ny661 := Aside0.mk hy661
                    clear hy661
                    replace H := Option.bind_eq_some_iff.mp H
                    obtain ⟨⟨t666, t667, t668, t669, t670, t673⟩, A830, H⟩ := H
                    replace H : (if t673 = 0 then ((assessorref03_Equal.f k4 t666 t667 t668 t669 t670 a0_0 a0_1 a0_2 a0_3 l0_4).bind fun t675 => (if t675 = true then ((tree_Count.f t634 t635 t636 t637 t638).bind fun t676 => ((tree_Count.f a0_0 a0_1 a0_2 a0_3 l0_4).bind fun t677 => (if t676 = (wrap64 (t677 + x11_4)) then ((assessorlaw03_awake.f k4).bind fun t678 => (some t678)) else (none)))) else (none))) else (none)) = some r := H
                    have A83 := Aside0.mk A830
                    clear A830
                    by_cases c84 : t673 = 0
                    ·rw [if_pos c84] at H
                     have c84b0 : (t673 == 0) = true := beq_iff_eq.mpr c84
                     have c84b1 : (t673 != 0) = false := bne_eq_false_iff_eq.mpr c84
                     clear c84
                     replace H := Option.bind_eq_some_iff.mp H
                     obtain ⟨t675, A850, H⟩ := H
                     replace H : (if t675 = true then ((tree_Count.f t634 t635 t636 t637 t638).bind fun t676 => ((tree_Count.f a0_0 a0_1 a0_2 a0_3 l0_4).bind fun t677 => (if t676 = (wrap64 (t677 + x11_4)) then ((assessorlaw03_awake.f k4).bind fun t678 => (some t678)) else (none)))) else (none)) = some r := H
                     have A85 := Aside0.mk A850
                     clear A850
                     by_cases c86 : t675 = true
                     ·subst c86
                      have H1 : ((tree_Count.f t634 t635 t636 t637 t638).bind fun t676 => ((tree_Count.f a0_0 a0_1 a0_2 a0_3 l0_4).bind fun t677 => (if t676 = (wrap64 (t677 + x11_4)) then ((assessorlaw03_awake.f k4).bind fun t678 => (some t678)) else (none)))) = some r := by rw [if_pos rfl] at H; exact H
                      clear H
                      have H := H1
                      clear H1
                      replace H := Option.bind_eq_some_iff.mp H
                      obtain ⟨t676, A870, H⟩ := H
                      replace H : ((tree_Count.f a0_0 a0_1 a0_2 a0_3 l0_4).bind fun t677 => (if t676 = (wrap64 (t677 + x11_4)) then ((assessorlaw03_awake.f k4).bind fun t678 => (some t678)) else (none))) = some r := H
                      have A87 := Aside0.mk A870
                      clear A870
                      replace H := Option.bind_eq_some_iff.mp H
                      obtain ⟨t677, A880, H⟩ := H
                      replace H : (if t676 = (wrap64 (t677 + x11_4)) then ((assessorlaw03_awake.f k4).bind fun t678 => (some t678)) else (none)) = some r := H
                      have A88 := Aside0.mk A880
                      clear A880
                      by_cases c89 : t676 = (wrap64 (t677 + x11_4))
                      ·rw [if_pos c89] at H
                       have c89b0 : (t676 == (wrap64 (t677 + x11_4))) = true := beq_iff_eq.mpr c89
                       have c89b1 : (t676 != (wrap64 (t677 + x11_4))) = false := bne_eq_false_iff_eq.mpr c89
                       clear c89
                       replace H := Option.bind_eq_some_iff.mp H
                       obtain ⟨t678, A900, H⟩ := H
                       replace H : (some t678) = some r := H
                       have A90 := Aside0.mk A900
                       clear A900
                       obtain rfl := Option.some.inj H
                       try go_wp2
                       have n0_ := Aside0.mk (Kd.V_drew HO_91.out)
                       have n1_ := Aside0.mk (Kd.R_drew HO_643004.out)
                       have n2_ := Aside0.mk (Kd.V_drew HO_653004.out)
                       have n3_ := Aside0.mk (blk_drew BK626.out)
                       have n4_ := Aside0.mk (blk_drew BK642.out)
                       have n5_ := Aside0.mk (blk_drew BK652.out)
                       have n6_ := Aside0.mk (below_drew1 HB.out)
                       clear HO_91
                       clear HO_643004
                       clear HO_653004
                       clear BK626
                       clear BK642
                       clear BK652
                       clear HB
                       have HO_91 := n0_
                       have HO_643004 := n1_
                       have HO_653004 := n2_
                       have BK626 := n3_
                       have BK642 := n4_
                       have BK652 := n5_
                       have HB := n6_
                       clear n0_ n1_ n2_ n3_ n4_ n5_ n6_
                       have q92 : (a3 : Int) ≤ ((t648.length : Int) : Int) := of_decide_eq_true (by first | (with_reducible assumption) | assumption)
                       obtain ⟨i092, hi092, _, hsz92, _⟩ := info_parts info24
                       have hroom92 : t648.length ≤ co55 := (Kd.V_reads' HO_653004.out).2.1
                       have hC92 : Kd.F k24 _ _ Ao55 t648.length t648 := (Kd.V_at (base := w.heap.size) HO_653004.out).2.2
                       have ql92 : (a2 : Int) ≤ (a3 : Int) := of_decide_eq_true (by first | (with_reducible assumption) | assumption)
                       have q092 : (0 : Int) ≤ (a2 : Int) := of_decide_eq_true (by first | (with_reducible assumption) | assumption)
                       try clear hcut69
                       have hcut92 := cut_mid (P := Try.prog) 22 24 .i64 .i64 Try.underlying22 hi092 5 hsz92 Ao55 t648.length co55 a2 a3 q092 ql92 q92 hroom92
                       have hr92 := Kd.F_mid (lo := (a2 : Int).toNat) (hi := (a3 : Int).toNat) (c := co55) hC92 (by omega) (by omega) hroom92
                       obtain ⟨A92, hA92⟩ : ∃ A1, A1 = (if co55 = (a2 : Int).toNat then Ao55 else (Ao55 : Option Addr).map (·.add ((a2 : Int).toNat * 5))) := ⟨_, rfl⟩
                       obtain ⟨c92, hc92⟩ : ∃ c1, c1 = co55 - (a2 : Int).toNat := ⟨_, rfl⟩
                       have hy92 : y661.length = (a3 : Int).toNat - (a2 : Int).toNat := (by rw [Ny661.out, List.length_drop, List.length_take] <;> omega)
                       rw [show ((t648).take (a3 : Int).toNat).drop (a2 : Int).toNat = y661 from Ny661.out.symm] at hr92
                       replace hr92 : Kd.F k24 _ _ A92 y661.length y661 := (by rw [hA92]; exact hr92)
                       rw [← hy92, ← hA92, ← hc92] at hcut92
                       have HO665 := Aside0.mk (show Kd.V k24 24 _ w.heap.size _ (.slice A92 y661.length c92) y661 from Kd.V_mk (by rw [hy92, hc92]; exact Nat.sub_le_sub_right (Nat.le_trans (by omega) hroom92) _) hr92)
                       have HC665 := Aside0.mk (show y661.length ≤ c92 from by rw [hy92, hc92]; exact Nat.sub_le_sub_right (Nat.le_trans (by omega) hroom92) _)
                       clear hr92 hC92 hroom92 hi092 hsz92 hc92
                       have KY92 := Aside0.mk hy92
                       have KA92 := Aside0.mk hA92
                       clear hy92 hA92
                       replace q92 := eq_true q92
                       refine start_ (n := 19) (S := fun w' => w'.cell? ⟨gb642, 0, none⟩ = some (.int .i64 t634) ∧ w'.cell? ⟨gb642, 1, none⟩ = some (.string t635) ∧ w'.cell? ⟨gb642, 2, none⟩ = some (.int .i64 t636) ∧ w'.cell? ⟨gb642, 3, none⟩ = some (.int .i64 t637) ∧ w'.cell? ⟨gb642, 4, none⟩ = some (.slice Ao47 t638.length co47) ∧ w'.cell? ⟨gb652, 0, none⟩ = some (.int .i64 t644) ∧ w'.cell? ⟨gb652, 1, none⟩ = some (.string t645) ∧ w'.cell? ⟨gb652, 2, none⟩ = some (.int .i64 t646) ∧ w'.cell? ⟨gb652, 3, none⟩ = some (.int .i64 t647) ∧ w'.cell? ⟨gb652, 4, none⟩ = some (.slice Ao55 t648.length co55)) (ds := []) #[false, false, false, false, false, false, false, false, false, false, false, false, false, false, false, false, false, false, false] (by kernel_rfl) rfl rfl ⟨(blk_cell BK642.out 0).trans rfl, (blk_cell BK642.out 1).trans rfl, (blk_cell BK642.out 2).trans rfl, (blk_cell BK642.out 3).trans rfl, (blk_cell BK642.out 4).trans rfl, (blk_cell BK652.out 0).trans rfl, (blk_cell BK652.out 1).trans rfl, (blk_cell BK652.out 2).trans rfl, (blk_cell BK652.out 3).trans rfl, (blk_cell BK652.out 4).trans rfl⟩ (fun hHeld => ?_); refine with_tabW assessorlaw03_TreeRestores.tab22 assessorlaw03_TreeRestores.bits22 (fun HT_ HW_ => ?_)
                       generalize wr.drew = w91 at HO_91 HO_643004 HO_653004 BK626 BK642 BK652 HB HO665 hHeld ⊢
                       refine pure_ (i := 1) (N := some 104) (v := ?_) (a' := ?_) #[false, true, false, false, false, false, false, false, false, false, false, false, false, false, false, false, false, false, false] rfl rfl (any_of HT_.out (by kernel_rfl)) (fun _ _ _ h => h) (Or.inl ⟨by rfl, ?_⟩) ?_ ?_
                       rotate_left
                       ·intro w'
                        go_simp
                        with_reducible rfl
                       rotate_left
                       ·simp only [Act.put, List.setIfInBounds_toArray, List.set_cons_zero, List.set_cons_succ, i64_w, i32_w]
                        rfl
                       refine pure_ (i := 2) (N := some 105) (v := ?_) (a' := ?_) #[false, true, true, false, false, false, false, false, false, false, false, false, false, false, false, false, false, false, false] rfl rfl (any_of HT_.out (by kernel_rfl)) (fun _ _ _ h => h) (Or.inl ⟨by rfl, ?_⟩) ?_ ?_
                       rotate_left
                       ·intro w'
                        go_simp
                        with_reducible rfl
                       rotate_left
                       ·simp only [Act.put, List.setIfInBounds_toArray, List.set_cons_zero, List.set_cons_succ, i64_w, i32_w]
                        rfl
                       refine pure_ (i := 3) (N := some 106) (v := ?_) (a' := ?_) #[false, true, true, true, false, false, false, false, false, false, false, false, false, false, false, false, false, false, false] rfl rfl (any_of HT_.out (by kernel_rfl)) (fun _ _ _ h => h) (Or.inl ⟨by rfl, ?_⟩) ?_ ?_
                       rotate_left
                       ·intro w'
                        go_simp
                        with_reducible rfl
                       rotate_left
                       ·simp only [Act.put, List.setIfInBounds_toArray, List.set_cons_zero, List.set_cons_succ, i64_w, i32_w]
                        rfl
                       refine pure_ (i := 4) (N := some 107) (v := ?_) (a' := ?_) #[false, true, true, true, true, false, false, false, false, false, false, false, false, false, false, false, false, false, false] rfl rfl (any_of HT_.out (by kernel_rfl)) (fun _ _ _ h => h) (Or.inl ⟨by rfl, ?_⟩) ?_ ?_
                       rotate_left
                       ·intro w'
                        go_simp
                        with_reducible rfl
                       rotate_left
                       ·simp only [Act.put, List.setIfInBounds_toArray, List.set_cons_zero, List.set_cons_succ, i64_w, i32_w]
                        rfl
                       refine pure_ (i := 5) (N := some 108) (v := ?_) (a' := ?_) #[false, true, true, true, true, true, false, false, false, false, false, false, false, false, false, false, false, false, false] rfl rfl (any_of HT_.out (by kernel_rfl)) (fun _ _ _ h => h) (Or.inl ⟨by rfl, ?_⟩) ?_ ?_
                       rotate_left
                       ·intro w'
                        go_simp
                        with_reducible rfl
                       rotate_left
                       ·simp only [Act.put, List.setIfInBounds_toArray, List.set_cons_zero, List.set_cons_succ, i64_w, i32_w]
                        rfl
                       refine pure_ (i := 6) (N := some 109) (v := ?_) (a' := ?_) #[false, true, true, true, true, true, true, false, false, false, false, false, false, false, false, false, false, false, false] rfl rfl (any_of HT_.out (by kernel_rfl)) (fun _ _ _ h => h) (Or.inl ⟨by rfl, ?_⟩) ?_ ?_
                       rotate_left
                       ·intro w'
                        go_simp
                        with_reducible rfl
                       rotate_left
                       ·simp only [Act.put, List.setIfInBounds_toArray, List.set_cons_zero, List.set_cons_succ, i64_w, i32_w]
                        rfl
                       refine pure_ (i := 7) (N := some 110) (v := ?_) (a' := ?_) #[false, true, true, true, true, true, true, true, false, false, false, false, false, false, false, false, false, false, false] rfl rfl (any_of HT_.out (by kernel_rfl)) (fun _ _ _ h => h) (Or.inl ⟨by rfl, ?_⟩) ?_ ?_
                       rotate_left
                       ·intro w'
                        go_simp
                        with_reducible rfl
                       rotate_left
                       ·simp only [Act.put, List.setIfInBounds_toArray, List.set_cons_zero, List.set_cons_succ, i64_w, i32_w]
                        rfl
                       refine pure_ (i := 9) (N := some 112) (v := ?_) (a' := ?_) #[false, true, true, true, true, true, true, true, false, true, false, false, false, false, false, false, false, false, false] rfl rfl (any_of HT_.out (by kernel_rfl)) (fun _ _ _ h => h) (Or.inl ⟨by rfl, ?_⟩) ?_ ?_
                       rotate_left
                       ·intro w'
                        go_simp
                        with_reducible rfl
                       rotate_left
                       ·simp only [Act.put, List.setIfInBounds_toArray, List.set_cons_zero, List.set_cons_succ, i64_w, i32_w]
                        rfl
                       refine pure_ (i := 10) (N := some 113) (v := ?_) (a' := ?_) #[false, true, true, true, true, true, true, true, false, true, true, false, false, false, false, false, false, false, false] rfl rfl (any_of HT_.out (by kernel_rfl)) (fun _ _ _ h => h) (Or.inl ⟨by rfl, ?_⟩) ?_ ?_
                       rotate_left
                       ·intro w'
                        go_simp
                        with_reducible rfl
                       rotate_left
                       ·simp only [Act.put, List.setIfInBounds_toArray, List.set_cons_zero, List.set_cons_succ, i64_w, i32_w]
                        rfl
                       refine take_ (i := 0) (N := some 103) (v := ?_) (a' := ?_) #[true, true, true, true, true, true, true, true, false, true, true, false, false, false, false, false, false, false, false] rfl rfl (take_ofW HT_.out HW_.out (by kernel_rfl)) (fun _ _ _ h => h) (Or.inl ⟨by rfl, ?_⟩) hHeld ?_ ?_
                       rotate_left
                       ·rintro w' ⟨s0, s1, s2, s3, s4, s5, s6, s7, s8, s9⟩
                        go_simp
                        with_reducible rfl
                       rotate_left
                       ·simp only [Act.put, List.setIfInBounds_toArray, List.set_cons_zero, List.set_cons_succ, i64_w, i32_w]
                        rfl
                       refine take_ (i := 8) (N := some 111) (v := ?_) (a' := ?_) #[true, true, true, true, true, true, true, true, true, true, true, false, false, false, false, false, false, false, false] rfl rfl (take_ofW HT_.out HW_.out (by kernel_rfl)) (fun _ _ _ h => h) (Or.inl ⟨by rfl, ?_⟩) hHeld ?_ ?_
                       rotate_left
                       ·rintro w' ⟨s0, s1, s2, s3, s4, s5, s6, s7, s8, s9⟩
                        go_simp
                        with_reducible rfl
                       rotate_left
                       ·simp only [Act.put, List.setIfInBounds_toArray, List.set_cons_zero, List.set_cons_succ, i64_w, i32_w]
                        rfl
                       refine pure_ (i := 11) (N := some 114) (v := ?_) (a' := ?_) #[true, true, true, true, true, true, true, true, true, true, true, true, false, false, false, false, false, false, false] rfl rfl (any_of HT_.out (by kernel_rfl)) (fun _ _ _ h => h) (Or.inl ⟨by rfl, ?_⟩) ?_ ?_
                       rotate_left
                       ·intro w'
                        go_simp
                        with_reducible rfl
                       rotate_left
                       ·simp only [Act.put, List.setIfInBounds_toArray, List.set_cons_zero, List.set_cons_succ, i64_w, i32_w]
                        rfl
                       refine join_ (σ := Value × Nat) 2 #[true, true, true, true, true, true, true, true, true, true, true, true, true, true, true, true, true, false, false] (fun s_ => [(115, .tuple #[.agg #[.int .i64 t666, .string t667, .int .i64 t668, .int .i64 t669, s_.1], .int .i64 t673]), (20, .pointer (some ⟨s_.2, 0, none⟩)), (102, .tuple #[.agg #[.int .i64 t666, .string t667, .int .i64 t668, .int .i64 t669, s_.1], .int .i64 t673]), (116, .agg #[.int .i64 t666, .string t667, .int .i64 t668, .int .i64 t669, s_.1]), (117, .int .i64 t673)]) (fun s_ w' => (w'.cell? ⟨gb642, 0, none⟩ = some (.int .i64 t634) ∧ w'.cell? ⟨gb642, 1, none⟩ = some (.string t635) ∧ w'.cell? ⟨gb642, 2, none⟩ = some (.int .i64 t636) ∧ w'.cell? ⟨gb642, 3, none⟩ = some (.int .i64 t637) ∧ w'.cell? ⟨gb642, 4, none⟩ = some (.slice Ao47 t638.length co47) ∧ w'.cell? ⟨gb652, 0, none⟩ = some (.int .i64 t644) ∧ w'.cell? ⟨gb652, 1, none⟩ = some (.string t645) ∧ w'.cell? ⟨gb652, 2, none⟩ = some (.int .i64 t646) ∧ w'.cell? ⟨gb652, 3, none⟩ = some (.int .i64 t647) ∧ w'.cell? ⟨gb652, 4, none⟩ = some (.slice Ao55 t648.length co55)) ∧ (Kd.V k24 24 w' w.heap.size (fun k_ => some k_ ≠ (s_.1 : Value).ownBlock ∧ some k_ ≠ (.slice Ao47 t638.length co47 : Value).ownBlock ∧ k_ ≠ gb626 ∧ k_ ≠ gb642 ∧ k_ ≠ gb652 ∧ k_ ≠ s_.2) (.slice A92 y661.length c92) y661) ∧ (Kd.R k24 24 w' w.heap.size (fun k_ => some k_ ≠ (.slice Ao47 t638.length co47 : Value).ownBlock ∧ k_ ≠ gb626 ∧ k_ ≠ gb642 ∧ k_ ≠ gb652 ∧ k_ ≠ s_.2) s_.1 t670) ∧ (Kd.R k24 24 w' w.heap.size (fun k_ => some k_ ≠ (s_.1 : Value).ownBlock ∧ k_ ≠ gb626 ∧ k_ ≠ gb642 ∧ k_ ≠ gb652 ∧ k_ ≠ s_.2) (.slice Ao47 t638.length co47) t638) ∧ (Kd.V k24 24 w' w.heap.size (fun k_ => some k_ ≠ (s_.1 : Value).ownBlock ∧ some k_ ≠ (.slice Ao47 t638.length co47 : Value).ownBlock ∧ k_ ≠ gb626 ∧ k_ ≠ gb642 ∧ k_ ≠ gb652 ∧ k_ ≠ s_.2) (.slice Ao55 t648.length co55) t648) ∧ (Kd.V k24 24 w' w.heap.size (fun k_ => some k_ ≠ (s_.1 : Value).ownBlock ∧ some k_ ≠ (.slice Ao47 t638.length co47 : Value).ownBlock ∧ k_ ≠ gb626 ∧ k_ ≠ gb642 ∧ k_ ≠ gb652 ∧ k_ ≠ s_.2) (.slice A69 y653.length c69) y653) ∧ (w'.heap[gb626]? = some (.cells #[.int .i64 a0_0, .string a0_1, .int .i64 a0_2, .int .i64 a0_3, .slice A0_4 l0_4.length c0_4] 24 (0, 0))) ∧ (w'.heap[gb642]? = some (.cells #[.int .i64 t634, .string t635, .int .i64 t636, .int .i64 t637, .slice Ao47 t638.length co47] 24 (0, 0))) ∧ (w'.heap[gb652]? = some (.cells #[.int .i64 t644, .string t645, .int .i64 t646, .int .i64 t647, .slice Ao55 t648.length co55] 24 (0, 0))) ∧ (w'.heap[s_.2]? = some (.cells #[.int .i64 0, .string (⟨#[]⟩ : ByteArray), .int .i64 0, .int .i64 0, .slice none 0 0] 24 (0, 0))) ∧ (w.heap.size ≤ s_.2) ∧ (w.heap.size ≤ s_.2) ∧ (gb626 ≠ s_.2) ∧ (s_.2 ≠ gb626) ∧ (gb642 ≠ s_.2) ∧ (s_.2 ≠ gb642) ∧ (gb652 ≠ s_.2) ∧ (s_.2 ≠ gb652) ∧ (Below w.heap.size w w')) ?_ ?_
                       rotate_left
                       ·intro hCont
                        refine two_ (i := 12) (j := 16) (Ni := some 115) (Nj := some 20) #[true, true, true, true, true, true, true, true, true, true, true, true, true, false, false, false, false, false, false] #[true, true, true, true, true, true, true, true, true, true, true, true, false, false, false, false, true, false, false] rfl rfl rfl rfl (two_of HT_.out (by kernel_rfl)) (by decide) (by decide) (fun K hK => ?_) (fun K hK => ?_)
                        ·skip
                         refine goes_ Try.func37 (by kernel_rfl) rfl #[.agg #[.int .i64 t634, .string t635, .int .i64 t636, .int .i64 t637, .slice Ao47 t638.length co47], .slice A1 l1.length c1, .int .i64 a2, .int .i64 (wrap64 (a2 + (l4.length : Int))), .slice A92 y661.length c92] (by rfl) rfl rfl (by (try simp only [List.map_toArray, List.map_cons, List.map_nil]); first | done | rfl | (simp only [List.length_drop, List.length_take]; rfl)) ?_
                         with_reducible refine (tree_Replace.calls k4 t634 t635 t636 t637 _ _ t638 _ _ l1 a2 (wrap64 (a2 + (l4.length : Int))) _ _ y661 t666 t667 t668 t669 t670 t673 _ ?side1 ?side2 ?side3 ?side4 ?side5 ?side6 A83.out).mono ?_
                         (case side1 => repeat (first | exact (Kd.R_reads' HO_643004.out).2.2 | (with_reducible refine Kd.C_alloc ?_ _) | (with_reducible refine Kd.C_drewN ?_ _) | (with_reducible refine Kd.C_drew ?_)))
                         (case side2 => exact (Kd.R_reads' HO_643004.out).2.1)
                         (case side3 => repeat (first | exact (Kd.C_below HR1.out HB.out) | (with_reducible refine Kd.C_alloc ?_ _) | (with_reducible refine Kd.C_drewN ?_ _) | (with_reducible refine Kd.C_drew ?_)))
                         (case side4 => exact HC1.out)
                         (case side5 => repeat (first | exact (Kd.V_reads' HO665.out).2.2 | (with_reducible refine Kd.C_alloc ?_ _) | (with_reducible refine Kd.C_drewN ?_ _) | (with_reducible refine Kd.C_drew ?_)))
                         (case side6 => exact (Kd.V_reads' HO665.out).2.1)
                         rintro e w93 ⟨v671, rfl, ho0, hb⟩
                         refine ⟨_, rfl, ?_⟩
                         have n0_ := Aside0.mk (Kd.V_elder' (by (with_reducible repeat (first | apply Kd.V_alloc | apply Kd.V_drewN | apply Kd.V_drew)); exact HO_91.out) (Kd.R_base ho0) hb)
                         have n1_ := Aside0.mk (Kd.R_elder' (by (with_reducible repeat (first | apply Kd.R_alloc | apply Kd.R_drewN | apply Kd.R_drew)); exact HO_643004.out) (Kd.R_base ho0) hb)
                         have n2_ := Aside0.mk (Kd.V_elder' (by (with_reducible repeat (first | apply Kd.V_alloc | apply Kd.V_drewN | apply Kd.V_drew)); exact HO_653004.out) (Kd.R_base ho0) hb)
                         have n3_ := Aside0.mk (Kd.V_elder' (by (with_reducible repeat (first | apply Kd.V_alloc | apply Kd.V_drewN | apply Kd.V_drew)); exact HO665.out) (Kd.R_base ho0) hb)
                         have n4_ := Aside0.mk (Kd.R_lower (Kd.R_newB (Kd.R_newB (Kd.R_newB (Kd.R_new' ho0 (Kd.R_lt (by (with_reducible repeat (first | apply Kd.R_alloc | apply Kd.R_drewN | apply Kd.R_drew)); exact HO_643004.out))) (g := gb626) (o := .cells #[.int .i64 a0_0, .string a0_1, .int .i64 a0_2, .int .i64 a0_3, .slice A0_4 l0_4.length c0_4] 24 (0, 0)) (by (with_reducible repeat (first | apply blk_drewN | apply blk_drew | apply blk_alloc)); exact BK626.out)) (g := gb642) (o := .cells #[.int .i64 t634, .string t635, .int .i64 t636, .int .i64 t637, .slice Ao47 t638.length co47] 24 (0, 0)) (by (with_reducible repeat (first | apply blk_drewN | apply blk_drew | apply blk_alloc)); exact BK642.out)) (g := gb652) (o := .cells #[.int .i64 t644, .string t645, .int .i64 t646, .int .i64 t647, .slice Ao55 t648.length co55] 24 (0, 0)) (by (with_reducible repeat (first | apply blk_drewN | apply blk_drew | apply blk_alloc)); exact BK652.out)) (below_size (by repeat (first | (with_reducible first | exact HB.out | apply below_alloc | apply pw_below_drewN | apply below_drew1 | refine below_set ?_ GE626.out | refine below_set ?_ GE642.out | refine below_set ?_ GE652.out) | exact HB.out))))
                         have n5_ := Aside0.mk (blk_below (g := gb626) (o := .cells #[.int .i64 a0_0, .string a0_1, .int .i64 a0_2, .int .i64 a0_3, .slice A0_4 l0_4.length c0_4] 24 (0, 0)) (by (with_reducible repeat (first | apply blk_drewN | apply blk_drew | apply blk_alloc)); exact BK626.out) hb)
                         have n6_ := Aside0.mk (blk_below (g := gb642) (o := .cells #[.int .i64 t634, .string t635, .int .i64 t636, .int .i64 t637, .slice Ao47 t638.length co47] 24 (0, 0)) (by (with_reducible repeat (first | apply blk_drewN | apply blk_drew | apply blk_alloc)); exact BK642.out) hb)
                         have n7_ := Aside0.mk (blk_below (g := gb652) (o := .cells #[.int .i64 t644, .string t645, .int .i64 t646, .int .i64 t647, .slice Ao55 t648.length co55] 24 (0, 0)) (by (with_reducible repeat (first | apply blk_drewN | apply blk_drew | apply blk_alloc)); exact BK652.out) hb)
                         have n8_ := Aside0.mk (below_step (by repeat (first | (with_reducible first | exact HB.out | apply below_alloc | apply pw_below_drewN | apply below_drew1 | refine below_set ?_ GE626.out | refine below_set ?_ GE642.out | refine below_set ?_ GE652.out) | exact HB.out)) hb)
                         clear HO_91
                         clear HO_643004
                         clear HO_653004
                         clear HO665
                         clear BK626
                         clear BK642
                         clear BK652
                         clear HB
                         have HO_91 := n0_
                         have HO_643004 := n1_
                         have HO_653004 := n2_
                         have HO665 := n3_
                         have HO672 := n4_
                         have BK626 := n5_
                         have BK642 := n6_
                         have BK652 := n7_
                         have HB := n8_
                         clear n0_ n1_ n2_ n3_ n4_ n5_ n6_ n7_ n8_
                         (try clear hb)
                         (try clear hb2)
                         (try clear hk)
                         (try clear hi)
                         (try clear ho0)
                         refine hK.out _ _ ⟨(blk_cell BK642.out 0).trans rfl, (blk_cell BK642.out 1).trans rfl, (blk_cell BK642.out 2).trans rfl, (blk_cell BK642.out 3).trans rfl, (blk_cell BK642.out 4).trans rfl, (blk_cell BK652.out 0).trans rfl, (blk_cell BK652.out 1).trans rfl, (blk_cell BK652.out 2).trans rfl, (blk_cell BK652.out 3).trans rfl, (blk_cell BK652.out 4).trans rfl⟩ (fun hHeld => ?_)
                         clear hK K
                         refine norm_ (a' := ?_) ?_ ?_
                         rotate_left
                         ·show Act.put _ (some 115) _ = _
                          simp only [Act.put, List.setIfInBounds_toArray, List.set_cons_zero, List.set_cons_succ, i64_w, i32_w]
                          rfl
                         refine pure_ (i := 13) (N := some 102) (v := ?_) (a' := ?_) #[true, true, true, true, true, true, true, true, true, true, true, true, true, true, false, false, false, false, false] rfl rfl (any_of HT_.out (by kernel_rfl)) (fun _ _ _ h => h) (Or.inl ⟨by rfl, ?_⟩) ?_ ?_
                         rotate_left
                         ·intro w'
                          go_simp
                          with_reducible rfl
                         rotate_left
                         ·simp only [Act.put, List.setIfInBounds_toArray, List.set_cons_zero, List.set_cons_succ, i64_w, i32_w]
                          rfl
                         refine pure_ (i := 14) (N := some 116) (v := ?_) (a' := ?_) #[true, true, true, true, true, true, true, true, true, true, true, true, true, true, true, false, false, false, false] rfl rfl (any_of HT_.out (by kernel_rfl)) (fun _ _ _ h => h) (Or.inl ⟨by rfl, ?_⟩) ?_ ?_
                         rotate_left
                         ·intro w'
                          go_simp
                          with_reducible rfl
                         rotate_left
                         ·simp only [Act.put, List.setIfInBounds_toArray, List.set_cons_zero, List.set_cons_succ, i64_w, i32_w]
                          rfl
                         refine pure_ (i := 15) (N := some 117) (v := ?_) (a' := ?_) #[true, true, true, true, true, true, true, true, true, true, true, true, true, true, true, true, false, false, false] rfl rfl (any_of HT_.out (by kernel_rfl)) (fun _ _ _ h => h) (Or.inl ⟨by rfl, ?_⟩) ?_ ?_
                         rotate_left
                         ·intro w'
                          go_simp
                          with_reducible rfl
                         rotate_left
                         ·simp only [Act.put, List.setIfInBounds_toArray, List.set_cons_zero, List.set_cons_succ, i64_w, i32_w]
                          rfl
                         refine one_ (i := 16) (N := some 20) #[true, true, true, true, true, true, true, true, true, true, true, true, true, true, true, true, true, false, false] rfl rfl (one_of HT_.out (by kernel_rfl)) (by decide) (fun K hK => ?_)
                         refine box_step ?hg (N := 20) ?hd (cs := #[.int .i64 0, .string (⟨#[]⟩ : ByteArray), .int .i64 0, .int .i64 0, .slice none 0 0]) (t := 24) ?hr ?_; (case hd => rfl); (case hg => rfl); (case hr => first | (go_simp; done) | (go_simp; rfl))
                         intro gb674 hg w94 hbox hb
                         have n0_ := Aside0.mk (Kd.V_below (Kd.V_elderB (by (with_reducible repeat (first | apply Kd.V_alloc | apply Kd.V_drewN | apply Kd.V_drew)); exact HO_91.out) gb674 (Nat.le_of_eq hg.symm)) hb)
                         have n1_ := Aside0.mk (Kd.R_below (Kd.R_elderB (by (with_reducible repeat (first | apply Kd.R_alloc | apply Kd.R_drewN | apply Kd.R_drew)); exact HO_643004.out) gb674 (Nat.le_of_eq hg.symm)) hb)
                         have n2_ := Aside0.mk (Kd.V_below (Kd.V_elderB (by (with_reducible repeat (first | apply Kd.V_alloc | apply Kd.V_drewN | apply Kd.V_drew)); exact HO_653004.out) gb674 (Nat.le_of_eq hg.symm)) hb)
                         have n3_ := Aside0.mk (Kd.V_below (Kd.V_elderB (by (with_reducible repeat (first | apply Kd.V_alloc | apply Kd.V_drewN | apply Kd.V_drew)); exact HO665.out) gb674 (Nat.le_of_eq hg.symm)) hb)
                         have n4_ := Aside0.mk (Kd.R_below (Kd.R_elderB (by (with_reducible repeat (first | apply Kd.R_alloc | apply Kd.R_drewN | apply Kd.R_drew)); exact HO672.out) gb674 (Nat.le_of_eq hg.symm)) hb)
                         have n5_ := Aside0.mk (blk_below (g := gb626) (o := .cells #[.int .i64 a0_0, .string a0_1, .int .i64 a0_2, .int .i64 a0_3, .slice A0_4 l0_4.length c0_4] 24 (0, 0)) (by (with_reducible repeat (first | apply blk_drewN | apply blk_drew | apply blk_alloc)); exact BK626.out) hb)
                         have n6_ := Aside0.mk (blk_below (g := gb642) (o := .cells #[.int .i64 t634, .string t635, .int .i64 t636, .int .i64 t637, .slice Ao47 t638.length co47] 24 (0, 0)) (by (with_reducible repeat (first | apply blk_drewN | apply blk_drew | apply blk_alloc)); exact BK642.out) hb)
                         have n7_ := Aside0.mk (blk_below (g := gb652) (o := .cells #[.int .i64 t644, .string t645, .int .i64 t646, .int .i64 t647, .slice Ao55 t648.length co55] 24 (0, 0)) (by (with_reducible repeat (first | apply blk_drewN | apply blk_drew | apply blk_alloc)); exact BK652.out) hb)
                         have n8_ := Aside0.mk (below_step (by repeat (first | (with_reducible first | exact HB.out | apply below_alloc | apply pw_below_drewN | apply below_drew1 | refine below_set ?_ GE626.out | refine below_set ?_ GE642.out | refine below_set ?_ GE652.out) | exact HB.out)) hb)
                         have n9_ := Aside0.mk (hbox)
                         have n10_ := Aside0.mk ((by rw [hg]; exact (below_size (by repeat (first | (with_reducible first | exact HB.out | apply below_alloc | apply pw_below_drewN | apply below_drew1 | refine below_set ?_ GE626.out | refine below_set ?_ GE642.out | refine below_set ?_ GE652.out) | exact HB.out))) : w.heap.size ≤ gb674))
                         have n11_ := Aside0.mk ((by rw [hg]; exact (below_size (by repeat (first | (with_reducible first | exact HB.out | apply below_alloc | apply pw_below_drewN | apply below_drew1 | refine below_set ?_ GE626.out | refine below_set ?_ GE642.out | refine below_set ?_ GE652.out) | exact HB.out))) : w.heap.size ≤ gb674))
                         have n12_ := Aside0.mk ((by rw [hg]; exact Nat.ne_of_lt (blk_lt (g := gb626) (o := .cells #[.int .i64 a0_0, .string a0_1, .int .i64 a0_2, .int .i64 a0_3, .slice A0_4 l0_4.length c0_4] 24 (0, 0)) (by (with_reducible repeat (first | apply blk_drewN | apply blk_drew | apply blk_alloc)); exact BK626.out)) : gb626 ≠ gb674))
                         have n13_ := Aside0.mk ((by rw [hg]; exact Nat.ne_of_gt (blk_lt (g := gb626) (o := .cells #[.int .i64 a0_0, .string a0_1, .int .i64 a0_2, .int .i64 a0_3, .slice A0_4 l0_4.length c0_4] 24 (0, 0)) (by (with_reducible repeat (first | apply blk_drewN | apply blk_drew | apply blk_alloc)); exact BK626.out)) : gb674 ≠ gb626))
                         have n14_ := Aside0.mk ((by rw [hg]; exact Nat.ne_of_lt (blk_lt (g := gb642) (o := .cells #[.int .i64 t634, .string t635, .int .i64 t636, .int .i64 t637, .slice Ao47 t638.length co47] 24 (0, 0)) (by (with_reducible repeat (first | apply blk_drewN | apply blk_drew | apply blk_alloc)); exact BK642.out)) : gb642 ≠ gb674))
                         have n15_ := Aside0.mk ((by rw [hg]; exact Nat.ne_of_gt (blk_lt (g := gb642) (o := .cells #[.int .i64 t634, .string t635, .int .i64 t636, .int .i64 t637, .slice Ao47 t638.length co47] 24 (0, 0)) (by (with_reducible repeat (first | apply blk_drewN | apply blk_drew | apply blk_alloc)); exact BK642.out)) : gb674 ≠ gb642))
                         have n16_ := Aside0.mk ((by rw [hg]; exact Nat.ne_of_lt (blk_lt (g := gb652) (o := .cells #[.int .i64 t644, .string t645, .int .i64 t646, .int .i64 t647, .slice Ao55 t648.length co55] 24 (0, 0)) (by (with_reducible repeat (first | apply blk_drewN | apply blk_drew | apply blk_alloc)); exact BK652.out)) : gb652 ≠ gb674))
                         have n17_ := Aside0.mk ((by rw [hg]; exact Nat.ne_of_gt (blk_lt (g := gb652) (o := .cells #[.int .i64 t644, .string t645, .int .i64 t646, .int .i64 t647, .slice Ao55 t648.length co55] 24 (0, 0)) (by (with_reducible repeat (first | apply blk_drewN | apply blk_drew | apply blk_alloc)); exact BK652.out)) : gb674 ≠ gb652))
                         clear HO_91
                         clear HO_643004
                         clear HO_653004
                         clear HO665
                         clear HO672
                         clear BK626
                         clear BK642
                         clear BK652
                         clear HB
                         have HO_91 := n0_
                         have HO_643004 := n1_
                         have HO_653004 := n2_
                         have HO665 := n3_
                         have HO672 := n4_
                         have BK626 := n5_
                         have BK642 := n6_
                         have BK652 := n7_
                         have HB := n8_
                         have BK674 := n9_
                         have GW674 := n10_
                         have GE674 := n11_
                         have NB626_674 := n12_
                         have NB674_626 := n13_
                         have NB642_674 := n14_
                         have NB674_642 := n15_
                         have NB652_674 := n16_
                         have NB674_652 := n17_
                         clear n0_ n1_ n2_ n3_ n4_ n5_ n6_ n7_ n8_ n9_ n10_ n11_ n12_ n13_ n14_ n15_ n16_ n17_
                         clear hb hbox hg
                         refine hK.out _ _ ⟨(blk_cell BK642.out 0).trans rfl, (blk_cell BK642.out 1).trans rfl, (blk_cell BK642.out 2).trans rfl, (blk_cell BK642.out 3).trans rfl, (blk_cell BK642.out 4).trans rfl, (blk_cell BK652.out 0).trans rfl, (blk_cell BK652.out 1).trans rfl, (blk_cell BK652.out 2).trans rfl, (blk_cell BK652.out 3).trans rfl, (blk_cell BK652.out 4).trans rfl⟩ (fun hHeld => ?_)
                         clear hK K
                         refine norm_ (a' := ?_) ?_ ?_
                         rotate_left
                         ·show Act.put _ (some 20) _ = _
                          simp only [Act.put, List.setIfInBounds_toArray, List.set_cons_zero, List.set_cons_succ, i64_w, i32_w]
                          rfl
                         exact norm_ (by simp only [putAll, Act.put, List.setIfInBounds_toArray, List.set_cons_zero, List.set_cons_succ]) (hCont (v671, gb674) _ ⟨hHeld, (by (with_reducible repeat (first | apply Kd.V_alloc | apply Kd.V_drewN | apply Kd.V_drew)); exact Kd.V_mono HO665.out (fun _ hk => ⟨hk.1.2, ⟨hk.1.1.1, ⟨hk.1.1.2.1, ⟨hk.1.1.2.2.1, ⟨hk.1.1.2.2.2, hk.2⟩⟩⟩⟩⟩)), (by (with_reducible repeat (first | apply Kd.R_alloc | apply Kd.R_drewN | apply Kd.R_drew)); exact Kd.R_mono HO672.out (fun _ hk => ⟨hk.1.1.1.1.2, ⟨hk.1.1.1.2, ⟨hk.1.1.2, ⟨hk.1.2, hk.2⟩⟩⟩⟩)), (by (with_reducible repeat (first | apply Kd.R_alloc | apply Kd.R_drewN | apply Kd.R_drew)); exact Kd.R_mono HO_643004.out (fun _ hk => ⟨hk.1.2, ⟨hk.1.1.1, ⟨hk.1.1.2.1, ⟨hk.1.1.2.2, hk.2⟩⟩⟩⟩)), (by (with_reducible repeat (first | apply Kd.V_alloc | apply Kd.V_drewN | apply Kd.V_drew)); exact Kd.V_mono HO_653004.out (fun _ hk => ⟨hk.1.2, ⟨hk.1.1.1, ⟨hk.1.1.2.1, ⟨hk.1.1.2.2.1, ⟨hk.1.1.2.2.2, hk.2⟩⟩⟩⟩⟩)), (by (with_reducible repeat (first | apply Kd.V_alloc | apply Kd.V_drewN | apply Kd.V_drew)); exact Kd.V_mono HO_91.out (fun _ hk => ⟨hk.1.2, ⟨hk.1.1.1, ⟨hk.1.1.2.1, ⟨hk.1.1.2.2.1, ⟨hk.1.1.2.2.2, hk.2⟩⟩⟩⟩⟩)), (by (with_reducible repeat (first | apply blk_drewN | apply blk_drew | apply blk_alloc)); exact BK626.out), (by (with_reducible repeat (first | apply blk_drewN | apply blk_drew | apply blk_alloc)); exact BK642.out), (by (with_reducible repeat (first | apply blk_drewN | apply blk_drew | apply blk_alloc)); exact BK652.out), (by (with_reducible repeat (first | apply blk_drewN | apply blk_drew | apply blk_alloc)); exact BK674.out), GW674.out, GE674.out, NB626_674.out, NB674_626.out, NB642_674.out, NB674_642.out, NB652_674.out, NB674_652.out, (by repeat (first | (with_reducible first | exact HB.out | apply below_alloc | apply pw_below_drewN | apply below_drew1 | refine below_set ?_ GE626.out | refine below_set ?_ GE642.out | refine below_set ?_ GE652.out | refine below_set ?_ GE674.out) | exact HB.out))⟩)
                        ·skip
                         refine box_step ?hg (N := 20) ?hd (cs := #[.int .i64 0, .string (⟨#[]⟩ : ByteArray), .int .i64 0, .int .i64 0, .slice none 0 0]) (t := 24) ?hr ?_; (case hd => rfl); (case hg => rfl); (case hr => first | (go_simp; done) | (go_simp; rfl))
                         intro gb674 hg w93 hbox hb
                         have n0_ := Aside0.mk (Kd.V_below (Kd.V_elderB (by (with_reducible repeat (first | apply Kd.V_alloc | apply Kd.V_drewN | apply Kd.V_drew)); exact HO_91.out) gb674 (Nat.le_of_eq hg.symm)) hb)
                         have n1_ := Aside0.mk (Kd.R_below (Kd.R_elderB (by (with_reducible repeat (first | apply Kd.R_alloc | apply Kd.R_drewN | apply Kd.R_drew)); exact HO_643004.out) gb674 (Nat.le_of_eq hg.symm)) hb)
                         have n2_ := Aside0.mk (Kd.V_below (Kd.V_elderB (by (with_reducible repeat (first | apply Kd.V_alloc | apply Kd.V_drewN | apply Kd.V_drew)); exact HO_653004.out) gb674 (Nat.le_of_eq hg.symm)) hb)
                         have n3_ := Aside0.mk (Kd.V_below (Kd.V_elderB (by (with_reducible repeat (first | apply Kd.V_alloc | apply Kd.V_drewN | apply Kd.V_drew)); exact HO665.out) gb674 (Nat.le_of_eq hg.symm)) hb)
                         have n4_ := Aside0.mk (blk_below (g := gb626) (o := .cells #[.int .i64 a0_0, .string a0_1, .int .i64 a0_2, .int .i64 a0_3, .slice A0_4 l0_4.length c0_4] 24 (0, 0)) (by (with_reducible repeat (first | apply blk_drewN | apply blk_drew | apply blk_alloc)); exact BK626.out) hb)
                         have n5_ := Aside0.mk (blk_below (g := gb642) (o := .cells #[.int .i64 t634, .string t635, .int .i64 t636, .int .i64 t637, .slice Ao47 t638.length co47] 24 (0, 0)) (by (with_reducible repeat (first | apply blk_drewN | apply blk_drew | apply blk_alloc)); exact BK642.out) hb)
                         have n6_ := Aside0.mk (blk_below (g := gb652) (o := .cells #[.int .i64 t644, .string t645, .int .i64 t646, .int .i64 t647, .slice Ao55 t648.length co55] 24 (0, 0)) (by (with_reducible repeat (first | apply blk_drewN | apply blk_drew | apply blk_alloc)); exact BK652.out) hb)
                         have n7_ := Aside0.mk (below_step (by repeat (first | (with_reducible first | exact HB.out | apply below_alloc | apply pw_below_drewN | apply below_drew1 | refine below_set ?_ GE626.out | refine below_set ?_ GE642.out | refine below_set ?_ GE652.out) | exact HB.out)) hb)
                         have n8_ := Aside0.mk (hbox)
                         have n9_ := Aside0.mk ((by rw [hg]; exact (below_size (by repeat (first | (with_reducible first | exact HB.out | apply below_alloc | apply pw_below_drewN | apply below_drew1 | refine below_set ?_ GE626.out | refine below_set ?_ GE642.out | refine below_set ?_ GE652.out) | exact HB.out))) : w.heap.size ≤ gb674))
                         have n10_ := Aside0.mk ((by rw [hg]; exact (below_size (by repeat (first | (with_reducible first | exact HB.out | apply below_alloc | apply pw_below_drewN | apply below_drew1 | refine below_set ?_ GE626.out | refine below_set ?_ GE642.out | refine below_set ?_ GE652.out) | exact HB.out))) : w.heap.size ≤ gb674))
                         have n11_ := Aside0.mk ((by rw [hg]; exact Nat.ne_of_lt (blk_lt (g := gb626) (o := .cells #[.int .i64 a0_0, .string a0_1, .int .i64 a0_2, .int .i64 a0_3, .slice A0_4 l0_4.length c0_4] 24 (0, 0)) (by (with_reducible repeat (first | apply blk_drewN | apply blk_drew | apply blk_alloc)); exact BK626.out)) : gb626 ≠ gb674))
                         have n12_ := Aside0.mk ((by rw [hg]; exact Nat.ne_of_gt (blk_lt (g := gb626) (o := .cells #[.int .i64 a0_0, .string a0_1, .int .i64 a0_2, .int .i64 a0_3, .slice A0_4 l0_4.length c0_4] 24 (0, 0)) (by (with_reducible repeat (first | apply blk_drewN | apply blk_drew | apply blk_alloc)); exact BK626.out)) : gb674 ≠ gb626))
                         have n13_ := Aside0.mk ((by rw [hg]; exact Nat.ne_of_lt (blk_lt (g := gb642) (o := .cells #[.int .i64 t634, .string t635, .int .i64 t636, .int .i64 t637, .slice Ao47 t638.length co47] 24 (0, 0)) (by (with_reducible repeat (first | apply blk_drewN | apply blk_drew | apply blk_alloc)); exact BK642.out)) : gb642 ≠ gb674))
                         have n14_ := Aside0.mk ((by rw [hg]; exact Nat.ne_of_gt (blk_lt (g := gb642) (o := .cells #[.int .i64 t634, .string t635, .int .i64 t636, .int .i64 t637, .slice Ao47 t638.length co47] 24 (0, 0)) (by (with_reducible repeat (first | apply blk_drewN | apply blk_drew | apply blk_alloc)); exact BK642.out)) : gb674 ≠ gb642))
                         have n15_ := Aside0.mk ((by rw [hg]; exact Nat.ne_of_lt (blk_lt (g := gb652) (o := .cells #[.int .i64 t644, .string t645, .int .i64 t646, .int .i64 t647, .slice Ao55 t648.length co55] 24 (0, 0)) (by (with_reducible repeat (first | apply blk_drewN | apply blk_drew | apply blk_alloc)); exact BK652.out)) : gb652 ≠ gb674))
                         have n16_ := Aside0.mk ((by rw [hg]; exact Nat.ne_of_gt (blk_lt (g := gb652) (o := .cells #[.int .i64 t644, .string t645, .int .i64 t646, .int .i64 t647, .slice Ao55 t648.length co55] 24 (0, 0)) (by (with_reducible repeat (first | apply blk_drewN | apply blk_drew | apply blk_alloc)); exact BK652.out)) : gb674 ≠ gb652))
                         clear HO_91
                         clear HO_643004
                         clear HO_653004
                         clear HO665
                         clear BK626
                         clear BK642
                         clear BK652
                         clear HB
                         have HO_91 := n0_
                         have HO_643004 := n1_
                         have HO_653004 := n2_
                         have HO665 := n3_
                         have BK626 := n4_
                         have BK642 := n5_
                         have BK652 := n6_
                         have HB := n7_
                         have BK674 := n8_
                         have GW674 := n9_
                         have GE674 := n10_
                         have NB626_674 := n11_
                         have NB674_626 := n12_
                         have NB642_674 := n13_
                         have NB674_642 := n14_
                         have NB652_674 := n15_
                         have NB674_652 := n16_
                         clear n0_ n1_ n2_ n3_ n4_ n5_ n6_ n7_ n8_ n9_ n10_ n11_ n12_ n13_ n14_ n15_ n16_
                         clear hb hbox hg
                         refine hK.out _ _ ⟨(blk_cell BK642.out 0).trans rfl, (blk_cell BK642.out 1).trans rfl, (blk_cell BK642.out 2).trans rfl, (blk_cell BK642.out 3).trans rfl, (blk_cell BK642.out 4).trans rfl, (blk_cell BK652.out 0).trans rfl, (blk_cell BK652.out 1).trans rfl, (blk_cell BK652.out 2).trans rfl, (blk_cell BK652.out 3).trans rfl, (blk_cell BK652.out 4).trans rfl⟩ (fun hHeld => ?_)
                         clear hK K
                         refine norm_ (a' := ?_) ?_ ?_
                         rotate_left
                         ·show Act.put _ (some 20) _ = _
                          simp only [Act.put, List.setIfInBounds_toArray, List.set_cons_zero, List.set_cons_succ, i64_w, i32_w]
                          rfl
                         refine one_ (i := 12) (N := some 115) #[true, true, true, true, true, true, true, true, true, true, true, true, true, false, false, false, true, false, false] rfl rfl (one_of HT_.out (by kernel_rfl)) (by decide) (fun K hK => ?_)
                         refine goes_ Try.func37 (by kernel_rfl) rfl #[.agg #[.int .i64 t634, .string t635, .int .i64 t636, .int .i64 t637, .slice Ao47 t638.length co47], .slice A1 l1.length c1, .int .i64 a2, .int .i64 (wrap64 (a2 + (l4.length : Int))), .slice A92 y661.length c92] (by rfl) rfl rfl (by (try simp only [List.map_toArray, List.map_cons, List.map_nil]); first | done | rfl | (simp only [List.length_drop, List.length_take]; rfl)) ?_
                         with_reducible refine (tree_Replace.calls k4 t634 t635 t636 t637 _ _ t638 _ _ l1 a2 (wrap64 (a2 + (l4.length : Int))) _ _ y661 t666 t667 t668 t669 t670 t673 _ ?side1 ?side2 ?side3 ?side4 ?side5 ?side6 A83.out).mono ?_
                         (case side1 => repeat (first | exact (Kd.R_reads' HO_643004.out).2.2 | (with_reducible refine Kd.C_alloc ?_ _) | (with_reducible refine Kd.C_drewN ?_ _) | (with_reducible refine Kd.C_drew ?_)))
                         (case side2 => exact (Kd.R_reads' HO_643004.out).2.1)
                         (case side3 => repeat (first | exact (Kd.C_below HR1.out HB.out) | (with_reducible refine Kd.C_alloc ?_ _) | (with_reducible refine Kd.C_drewN ?_ _) | (with_reducible refine Kd.C_drew ?_)))
                         (case side4 => exact HC1.out)
                         (case side5 => repeat (first | exact (Kd.V_reads' HO665.out).2.2 | (with_reducible refine Kd.C_alloc ?_ _) | (with_reducible refine Kd.C_drewN ?_ _) | (with_reducible refine Kd.C_drew ?_)))
                         (case side6 => exact (Kd.V_reads' HO665.out).2.1)
                         rintro e w94 ⟨v671, rfl, ho0, hb⟩
                         refine ⟨_, rfl, ?_⟩
                         have n0_ := Aside0.mk (Kd.V_elder' (by (with_reducible repeat (first | apply Kd.V_alloc | apply Kd.V_drewN | apply Kd.V_drew)); exact HO_91.out) (Kd.R_base ho0) hb)
                         have n1_ := Aside0.mk (Kd.R_elder' (by (with_reducible repeat (first | apply Kd.R_alloc | apply Kd.R_drewN | apply Kd.R_drew)); exact HO_643004.out) (Kd.R_base ho0) hb)
                         have n2_ := Aside0.mk (Kd.V_elder' (by (with_reducible repeat (first | apply Kd.V_alloc | apply Kd.V_drewN | apply Kd.V_drew)); exact HO_653004.out) (Kd.R_base ho0) hb)
                         have n3_ := Aside0.mk (Kd.V_elder' (by (with_reducible repeat (first | apply Kd.V_alloc | apply Kd.V_drewN | apply Kd.V_drew)); exact HO665.out) (Kd.R_base ho0) hb)
                         have n4_ := Aside0.mk (Kd.R_lower (Kd.R_newB (Kd.R_newB (Kd.R_newB (Kd.R_newB (Kd.R_new' ho0 (Kd.R_lt (by (with_reducible repeat (first | apply Kd.R_alloc | apply Kd.R_drewN | apply Kd.R_drew)); exact HO_643004.out))) (g := gb626) (o := .cells #[.int .i64 a0_0, .string a0_1, .int .i64 a0_2, .int .i64 a0_3, .slice A0_4 l0_4.length c0_4] 24 (0, 0)) (by (with_reducible repeat (first | apply blk_drewN | apply blk_drew | apply blk_alloc)); exact BK626.out)) (g := gb642) (o := .cells #[.int .i64 t634, .string t635, .int .i64 t636, .int .i64 t637, .slice Ao47 t638.length co47] 24 (0, 0)) (by (with_reducible repeat (first | apply blk_drewN | apply blk_drew | apply blk_alloc)); exact BK642.out)) (g := gb652) (o := .cells #[.int .i64 t644, .string t645, .int .i64 t646, .int .i64 t647, .slice Ao55 t648.length co55] 24 (0, 0)) (by (with_reducible repeat (first | apply blk_drewN | apply blk_drew | apply blk_alloc)); exact BK652.out)) (g := gb674) (o := .cells #[.int .i64 0, .string (⟨#[]⟩ : ByteArray), .int .i64 0, .int .i64 0, .slice none 0 0] 24 (0, 0)) (by (with_reducible repeat (first | apply blk_drewN | apply blk_drew | apply blk_alloc)); exact BK674.out)) (below_size (by repeat (first | (with_reducible first | exact HB.out | apply below_alloc | apply pw_below_drewN | apply below_drew1 | refine below_set ?_ GE626.out | refine below_set ?_ GE642.out | refine below_set ?_ GE652.out | refine below_set ?_ GE674.out) | exact HB.out))))
                         have n5_ := Aside0.mk (blk_below (g := gb626) (o := .cells #[.int .i64 a0_0, .string a0_1, .int .i64 a0_2, .int .i64 a0_3, .slice A0_4 l0_4.length c0_4] 24 (0, 0)) (by (with_reducible repeat (first | apply blk_drewN | apply blk_drew | apply blk_alloc)); exact BK626.out) hb)
                         have n6_ := Aside0.mk (blk_below (g := gb642) (o := .cells #[.int .i64 t634, .string t635, .int .i64 t636, .int .i64 t637, .slice Ao47 t638.length co47] 24 (0, 0)) (by (with_reducible repeat (first | apply blk_drewN | apply blk_drew | apply blk_alloc)); exact BK642.out) hb)
                         have n7_ := Aside0.mk (blk_below (g := gb652) (o := .cells #[.int .i64 t644, .string t645, .int .i64 t646, .int .i64 t647, .slice Ao55 t648.length co55] 24 (0, 0)) (by (with_reducible repeat (first | apply blk_drewN | apply blk_drew | apply blk_alloc)); exact BK652.out) hb)
                         have n8_ := Aside0.mk (blk_below (g := gb674) (o := .cells #[.int .i64 0, .string (⟨#[]⟩ : ByteArray), .int .i64 0, .int .i64 0, .slice none 0 0] 24 (0, 0)) (by (with_reducible repeat (first | apply blk_drewN | apply blk_drew | apply blk_alloc)); exact BK674.out) hb)
                         have n9_ := Aside0.mk (below_step (by repeat (first | (with_reducible first | exact HB.out | apply below_alloc | apply pw_below_drewN | apply below_drew1 | refine below_set ?_ GE626.out | refine below_set ?_ GE642.out | refine below_set ?_ GE652.out | refine below_set ?_ GE674.out) | exact HB.out)) hb)
                         clear HO_91
                         clear HO_643004
                         clear HO_653004
                         clear HO665
                         clear BK626
                         clear BK642
                         clear BK652
                         clear BK674
                         clear HB
                         have HO_91 := n0_
                         have HO_643004 := n1_
                         have HO_653004 := n2_
                         have HO665 := n3_
                         have HO672 := n4_
                         have BK626 := n5_
                         have BK642 := n6_
                         have BK652 := n7_
                         have BK674 := n8_
                         have HB := n9_
                         clear n0_ n1_ n2_ n3_ n4_ n5_ n6_ n7_ n8_ n9_
                         (try clear hb)
                         (try clear hb2)
                         (try clear hk)
                         (try clear hi)
                         (try clear ho0)
                         refine hK.out _ _ ⟨(blk_cell BK642.out 0).trans rfl, (blk_cell BK642.out 1).trans rfl, (blk_cell BK642.out 2).trans rfl, (blk_cell BK642.out 3).trans rfl, (blk_cell BK642.out 4).trans rfl, (blk_cell BK652.out 0).trans rfl, (blk_cell BK652.out 1).trans rfl, (blk_cell BK652.out 2).trans rfl, (blk_cell BK652.out 3).trans rfl, (blk_cell BK652.out 4).trans rfl⟩ (fun hHeld => ?_)
                         clear hK K
                         refine norm_ (a' := ?_) ?_ ?_
                         rotate_left
                         ·show Act.put _ (some 115) _ = _
                          simp only [Act.put, List.setIfInBounds_toArray, List.set_cons_zero, List.set_cons_succ, i64_w, i32_w]
                          rfl
                         refine pure_ (i := 13) (N := some 102) (v := ?_) (a' := ?_) #[true, true, true, true, true, true, true, true, true, true, true, true, true, true, false, false, true, false, false] rfl rfl (any_of HT_.out (by kernel_rfl)) (fun _ _ _ h => h) (Or.inl ⟨by rfl, ?_⟩) ?_ ?_
                         rotate_left
                         ·intro w'
                          go_simp
                          with_reducible rfl
                         rotate_left
                         ·simp only [Act.put, List.setIfInBounds_toArray, List.set_cons_zero, List.set_cons_succ, i64_w, i32_w]
                          rfl
                         refine pure_ (i := 14) (N := some 116) (v := ?_) (a' := ?_) #[true, true, true, true, true, true, true, true, true, true, true, true, true, true, true, false, true, false, false] rfl rfl (any_of HT_.out (by kernel_rfl)) (fun _ _ _ h => h) (Or.inl ⟨by rfl, ?_⟩) ?_ ?_
                         rotate_left
                         ·intro w'
                          go_simp
                          with_reducible rfl
                         rotate_left
                         ·simp only [Act.put, List.setIfInBounds_toArray, List.set_cons_zero, List.set_cons_succ, i64_w, i32_w]
                          rfl
                         refine pure_ (i := 15) (N := some 117) (v := ?_) (a' := ?_) #[true, true, true, true, true, true, true, true, true, true, true, true, true, true, true, true, true, false, false] rfl rfl (any_of HT_.out (by kernel_rfl)) (fun _ _ _ h => h) (Or.inl ⟨by rfl, ?_⟩) ?_ ?_
                         rotate_left
                         ·intro w'
                          go_simp
                          with_reducible rfl
                         rotate_left
                         ·simp only [Act.put, List.setIfInBounds_toArray, List.set_cons_zero, List.set_cons_succ, i64_w, i32_w]
                          rfl
                         exact norm_ (by simp only [putAll, Act.put, List.setIfInBounds_toArray, List.set_cons_zero, List.set_cons_succ]) (hCont (v671, gb674) _ ⟨hHeld, (by (with_reducible repeat (first | apply Kd.V_alloc | apply Kd.V_drewN | apply Kd.V_drew)); exact Kd.V_mono HO665.out (fun _ hk => ⟨hk.2, ⟨hk.1.1.1, ⟨hk.1.1.2.1, ⟨hk.1.1.2.2.1, ⟨hk.1.1.2.2.2, hk.1.2⟩⟩⟩⟩⟩)), (by (with_reducible repeat (first | apply Kd.R_alloc | apply Kd.R_drewN | apply Kd.R_drew)); exact Kd.R_mono HO672.out (fun _ hk => ⟨hk.1.1.1.1.2, ⟨hk.1.1.1.2, ⟨hk.1.1.2, ⟨hk.1.2, hk.2⟩⟩⟩⟩)), (by (with_reducible repeat (first | apply Kd.R_alloc | apply Kd.R_drewN | apply Kd.R_drew)); exact Kd.R_mono HO_643004.out (fun _ hk => ⟨hk.2, ⟨hk.1.1.1, ⟨hk.1.1.2.1, ⟨hk.1.1.2.2, hk.1.2⟩⟩⟩⟩)), (by (with_reducible repeat (first | apply Kd.V_alloc | apply Kd.V_drewN | apply Kd.V_drew)); exact Kd.V_mono HO_653004.out (fun _ hk => ⟨hk.2, ⟨hk.1.1.1, ⟨hk.1.1.2.1, ⟨hk.1.1.2.2.1, ⟨hk.1.1.2.2.2, hk.1.2⟩⟩⟩⟩⟩)), (by (with_reducible repeat (first | apply Kd.V_alloc | apply Kd.V_drewN | apply Kd.V_drew)); exact Kd.V_mono HO_91.out (fun _ hk => ⟨hk.2, ⟨hk.1.1.1, ⟨hk.1.1.2.1, ⟨hk.1.1.2.2.1, ⟨hk.1.1.2.2.2, hk.1.2⟩⟩⟩⟩⟩)), (by (with_reducible repeat (first | apply blk_drewN | apply blk_drew | apply blk_alloc)); exact BK626.out), (by (with_reducible repeat (first | apply blk_drewN | apply blk_drew | apply blk_alloc)); exact BK642.out), (by (with_reducible repeat (first | apply blk_drewN | apply blk_drew | apply blk_alloc)); exact BK652.out), (by (with_reducible repeat (first | apply blk_drewN | apply blk_drew | apply blk_alloc)); exact BK674.out), GW674.out, GE674.out, NB626_674.out, NB674_626.out, NB642_674.out, NB674_642.out, NB652_674.out, NB674_652.out, (by repeat (first | (with_reducible first | exact HB.out | apply below_alloc | apply pw_below_drewN | apply below_drew1 | refine below_set ?_ GE626.out | refine below_set ?_ GE642.out | refine below_set ?_ GE652.out | refine below_set ?_ GE674.out) | exact HB.out))⟩)
                       rintro ⟨v671, gb674⟩ w95 ⟨hS_, h0_, h1_, h2_, h3_, h4_, h5_, h6_, h7_, h8_, h9_, h10_, h11_, h12_, h13_, h14_, h15_, h16_, h17_⟩
                       have n0_ : Aside0 (Kd.V k24 24 w95 w.heap.size (fun k_ => some k_ ≠ (v671 : Value).ownBlock ∧ some k_ ≠ (.slice Ao47 t638.length co47 : Value).ownBlock ∧ k_ ≠ gb626 ∧ k_ ≠ gb642 ∧ k_ ≠ gb652 ∧ k_ ≠ gb674) (.slice A92 y661.length c92) y661) := ⟨h0_⟩
                       have n1_ : Aside0 (Kd.R k24 24 w95 w.heap.size (fun k_ => some k_ ≠ (.slice Ao47 t638.length co47 : Value).ownBlock ∧ k_ ≠ gb626 ∧ k_ ≠ gb642 ∧ k_ ≠ gb652 ∧ k_ ≠ gb674) v671 t670) := ⟨h1_⟩
                       have n2_ : Aside0 (Kd.R k24 24 w95 w.heap.size (fun k_ => some k_ ≠ (v671 : Value).ownBlock ∧ k_ ≠ gb626 ∧ k_ ≠ gb642 ∧ k_ ≠ gb652 ∧ k_ ≠ gb674) (.slice Ao47 t638.length co47) t638) := ⟨h2_⟩
                       have n3_ : Aside0 (Kd.V k24 24 w95 w.heap.size (fun k_ => some k_ ≠ (v671 : Value).ownBlock ∧ some k_ ≠ (.slice Ao47 t638.length co47 : Value).ownBlock ∧ k_ ≠ gb626 ∧ k_ ≠ gb642 ∧ k_ ≠ gb652 ∧ k_ ≠ gb674) (.slice Ao55 t648.length co55) t648) := ⟨h3_⟩
                       have n4_ : Aside0 (Kd.V k24 24 w95 w.heap.size (fun k_ => some k_ ≠ (v671 : Value).ownBlock ∧ some k_ ≠ (.slice Ao47 t638.length co47 : Value).ownBlock ∧ k_ ≠ gb626 ∧ k_ ≠ gb642 ∧ k_ ≠ gb652 ∧ k_ ≠ gb674) (.slice A69 y653.length c69) y653) := ⟨h4_⟩
                       have n5_ : Aside0 (w95.heap[gb626]? = some (.cells #[.int .i64 a0_0, .string a0_1, .int .i64 a0_2, .int .i64 a0_3, .slice A0_4 l0_4.length c0_4] 24 (0, 0))) := ⟨h5_⟩
                       have n6_ : Aside0 (w95.heap[gb642]? = some (.cells #[.int .i64 t634, .string t635, .int .i64 t636, .int .i64 t637, .slice Ao47 t638.length co47] 24 (0, 0))) := ⟨h6_⟩
                       have n7_ : Aside0 (w95.heap[gb652]? = some (.cells #[.int .i64 t644, .string t645, .int .i64 t646, .int .i64 t647, .slice Ao55 t648.length co55] 24 (0, 0))) := ⟨h7_⟩
                       have n8_ : Aside0 (w95.heap[gb674]? = some (.cells #[.int .i64 0, .string (⟨#[]⟩ : ByteArray), .int .i64 0, .int .i64 0, .slice none 0 0] 24 (0, 0))) := ⟨h8_⟩
                       have n9_ : Aside0 (w.heap.size ≤ gb674) := ⟨h9_⟩
                       have n10_ : Aside0 (w.heap.size ≤ gb674) := ⟨h10_⟩
                       have n11_ : Aside0 (gb626 ≠ gb674) := ⟨h11_⟩
                       have n12_ : Aside0 (gb674 ≠ gb626) := ⟨h12_⟩
                       have n13_ : Aside0 (gb642 ≠ gb674) := ⟨h13_⟩
                       have n14_ : Aside0 (gb674 ≠ gb642) := ⟨h14_⟩
                       have n15_ : Aside0 (gb652 ≠ gb674) := ⟨h15_⟩
                       have n16_ : Aside0 (gb674 ≠ gb652) := ⟨h16_⟩
                       have n17_ : Aside0 (Below w.heap.size w w95) := ⟨h17_⟩
                       clear HO_91
                       clear HO_643004
                       clear HO_653004
                       clear BK626
                       clear BK642
                       clear BK652
                       clear HB
                       clear h0_ h1_ h2_ h3_ h4_ h5_ h6_ h7_ h8_ h9_ h10_ h11_ h12_ h13_ h14_ h15_ h16_ h17_
                       have HO665 := n0_
                       have HO672 := n1_
                       have HO_643004 := n2_
                       have HO_653004 := n3_
                       have HO_91 := n4_
                       have BK626 := n5_
                       have BK642 := n6_
                       have BK652 := n7_
                       have BK674 := n8_
                       have GW674 := n9_
                       have GE674 := n10_
                       have NB626_674 := n11_
                       have NB674_626 := n12_
                       have NB642_674 := n13_
                       have NB674_642 := n14_
                       have NB652_674 := n15_
                       have NB674_652 := n16_
                       have HB := n17_
                       clear n0_ n1_ n2_ n3_ n4_ n5_ n6_ n7_ n8_ n9_ n10_ n11_ n12_ n13_ n14_ n15_ n16_ n17_
                       have hHeld : w95.cell? ⟨gb642, 0, none⟩ = some (.int .i64 t634) ∧ w95.cell? ⟨gb642, 1, none⟩ = some (.string t635) ∧ w95.cell? ⟨gb642, 2, none⟩ = some (.int .i64 t636) ∧ w95.cell? ⟨gb642, 3, none⟩ = some (.int .i64 t637) ∧ w95.cell? ⟨gb642, 4, none⟩ = some (.slice Ao47 t638.length co47) ∧ w95.cell? ⟨gb652, 0, none⟩ = some (.int .i64 t644) ∧ w95.cell? ⟨gb652, 1, none⟩ = some (.string t645) ∧ w95.cell? ⟨gb652, 2, none⟩ = some (.int .i64 t646) ∧ w95.cell? ⟨gb652, 3, none⟩ = some (.int .i64 t647) ∧ w95.cell? ⟨gb652, 4, none⟩ = some (.slice Ao55 t648.length co55) := hS_
                       obtain ⟨Ao100, co100, eo100⟩ := Kd.R_slice HO672.out
                       (first | subst eo100 | (injection eo100 with f1_ f2_ f3_; have f4_ := f1_.symm; have f5_ := f3_.symm; clear f1_ f2_ f3_; subst f4_; subst f5_))
                       refine norm_ (a' := ?_) ?_ ?_
                       rotate_left
                       ·simp only [putAll, Act.put, List.setIfInBounds_toArray, List.set_cons_zero, List.set_cons_succ]
                        rfl
                       refine one_ (i := 17) (N := none) #[true, true, true, true, true, true, true, true, true, true, true, true, true, true, true, true, true, true, false] rfl rfl (one_of HT_.out (by kernel_rfl)) (by decide) (fun K hK => ?_)
                       have hs96 : w95.cell? ⟨gb674, 0, none⟩ = some (.int .i64 0) := (blk_cell BK674.out 0).trans rfl
                       have hfs96 := blk_frozen BK674.out 0
                       have hns96_0 := NB626_674.out
                       have hns96_1 := NB642_674.out
                       have hns96_2 := NB652_674.out
                       have hms96_0 := NB674_626.out
                       have hms96_1 := NB674_642.out
                       have hms96_2 := NB674_652.out
                       have hs97 : w95.cell? ⟨gb674, 1, none⟩ = some (.string (⟨#[]⟩ : ByteArray)) := (blk_cell BK674.out 1).trans rfl
                       have hfs97 := blk_frozen BK674.out 1
                       have hns97_0 := NB626_674.out
                       have hns97_1 := NB642_674.out
                       have hns97_2 := NB652_674.out
                       have hms97_0 := NB674_626.out
                       have hms97_1 := NB674_642.out
                       have hms97_2 := NB674_652.out
                       have hs98 : w95.cell? ⟨gb674, 2, none⟩ = some (.int .i64 0) := (blk_cell BK674.out 2).trans rfl
                       have hfs98 := blk_frozen BK674.out 2
                       have hns98_0 := NB626_674.out
                       have hns98_1 := NB642_674.out
                       have hns98_2 := NB652_674.out
                       have hms98_0 := NB674_626.out
                       have hms98_1 := NB674_642.out
                       have hms98_2 := NB674_652.out
                       have hs99 : w95.cell? ⟨gb674, 3, none⟩ = some (.int .i64 0) := (blk_cell BK674.out 3).trans rfl
                       have hfs99 := blk_frozen BK674.out 3
                       have hns99_0 := NB626_674.out
                       have hns99_1 := NB642_674.out
                       have hns99_2 := NB652_674.out
                       have hms99_0 := NB674_626.out
                       have hms99_1 := NB674_642.out
                       have hms99_2 := NB674_652.out
                       have hs101 : w95.cell? ⟨gb674, 4, none⟩ = some (.slice none 0 0) := (blk_cell BK674.out 4).trans rfl
                       have hfs101 := blk_frozen BK674.out 4
                       have hns101_0 := NB626_674.out
                       have hns101_1 := NB642_674.out
                       have hns101_2 := NB652_674.out
                       have hms101_0 := NB674_626.out
                       have hms101_1 := NB674_642.out
                       have hms101_2 := NB674_652.out
                       refine skip_ (w1 := ?_) (by rfl) rfl ?_ ?_
                       rotate_left
                       ·go_simp
                        rfl
                       refine hK.out _ _ ⟨((cell_far (p := ⟨gb674, _, none⟩) NB642_674.out _).trans (((cell_far (p := ⟨gb674, _, none⟩) NB642_674.out _).trans (((cell_far (p := ⟨gb674, _, none⟩) NB642_674.out _).trans (((cell_far (p := ⟨gb674, _, none⟩) NB642_674.out _).trans (((cell_far (p := ⟨gb674, _, none⟩) NB642_674.out _).trans (hHeld.1)))))))))), ((cell_far (p := ⟨gb674, _, none⟩) NB642_674.out _).trans (((cell_far (p := ⟨gb674, _, none⟩) NB642_674.out _).trans (((cell_far (p := ⟨gb674, _, none⟩) NB642_674.out _).trans (((cell_far (p := ⟨gb674, _, none⟩) NB642_674.out _).trans (((cell_far (p := ⟨gb674, _, none⟩) NB642_674.out _).trans (hHeld.2.1)))))))))), ((cell_far (p := ⟨gb674, _, none⟩) NB642_674.out _).trans (((cell_far (p := ⟨gb674, _, none⟩) NB642_674.out _).trans (((cell_far (p := ⟨gb674, _, none⟩) NB642_674.out _).trans (((cell_far (p := ⟨gb674, _, none⟩) NB642_674.out _).trans (((cell_far (p := ⟨gb674, _, none⟩) NB642_674.out _).trans (hHeld.2.2.1)))))))))), ((cell_far (p := ⟨gb674, _, none⟩) NB642_674.out _).trans (((cell_far (p := ⟨gb674, _, none⟩) NB642_674.out _).trans (((cell_far (p := ⟨gb674, _, none⟩) NB642_674.out _).trans (((cell_far (p := ⟨gb674, _, none⟩) NB642_674.out _).trans (((cell_far (p := ⟨gb674, _, none⟩) NB642_674.out _).trans (hHeld.2.2.2.1)))))))))), ((cell_far (p := ⟨gb674, _, none⟩) NB642_674.out _).trans (((cell_far (p := ⟨gb674, _, none⟩) NB642_674.out _).trans (((cell_far (p := ⟨gb674, _, none⟩) NB642_674.out _).trans (((cell_far (p := ⟨gb674, _, none⟩) NB642_674.out _).trans (((cell_far (p := ⟨gb674, _, none⟩) NB642_674.out _).trans (hHeld.2.2.2.2.1)))))))))), ((cell_far (p := ⟨gb674, _, none⟩) NB652_674.out _).trans (((cell_far (p := ⟨gb674, _, none⟩) NB652_674.out _).trans (((cell_far (p := ⟨gb674, _, none⟩) NB652_674.out _).trans (((cell_far (p := ⟨gb674, _, none⟩) NB652_674.out _).trans (((cell_far (p := ⟨gb674, _, none⟩) NB652_674.out _).trans (hHeld.2.2.2.2.2.1)))))))))), ((cell_far (p := ⟨gb674, _, none⟩) NB652_674.out _).trans (((cell_far (p := ⟨gb674, _, none⟩) NB652_674.out _).trans (((cell_far (p := ⟨gb674, _, none⟩) NB652_674.out _).trans (((cell_far (p := ⟨gb674, _, none⟩) NB652_674.out _).trans (((cell_far (p := ⟨gb674, _, none⟩) NB652_674.out _).trans (hHeld.2.2.2.2.2.2.1)))))))))), ((cell_far (p := ⟨gb674, _, none⟩) NB652_674.out _).trans (((cell_far (p := ⟨gb674, _, none⟩) NB652_674.out _).trans (((cell_far (p := ⟨gb674, _, none⟩) NB652_674.out _).trans (((cell_far (p := ⟨gb674, _, none⟩) NB652_674.out _).trans (((cell_far (p := ⟨gb674, _, none⟩) NB652_674.out _).trans (hHeld.2.2.2.2.2.2.2.1)))))))))), ((cell_far (p := ⟨gb674, _, none⟩) NB652_674.out _).trans (((cell_far (p := ⟨gb674, _, none⟩) NB652_674.out _).trans (((cell_far (p := ⟨gb674, _, none⟩) NB652_674.out _).trans (((cell_far (p := ⟨gb674, _, none⟩) NB652_674.out _).trans (((cell_far (p := ⟨gb674, _, none⟩) NB652_674.out _).trans (hHeld.2.2.2.2.2.2.2.2.1)))))))))), ((cell_far (p := ⟨gb674, _, none⟩) NB652_674.out _).trans (((cell_far (p := ⟨gb674, _, none⟩) NB652_674.out _).trans (((cell_far (p := ⟨gb674, _, none⟩) NB652_674.out _).trans (((cell_far (p := ⟨gb674, _, none⟩) NB652_674.out _).trans (((cell_far (p := ⟨gb674, _, none⟩) NB652_674.out _).trans (hHeld.2.2.2.2.2.2.2.2.2))))))))))⟩ (fun hHeld => ?_)
                       clear hK K
                       refine pure_ (i := 18) (N := some 21) (v := ?_) (a' := ?_) #[true, true, true, true, true, true, true, true, true, true, true, true, true, true, true, true, true, true, true] rfl rfl (any_of HT_.out (by kernel_rfl)) (fun _ _ _ h => h) (Or.inl ⟨by rfl, ?_⟩) ?_ ?_
                       rotate_left
                       ·intro w'
                        go_simp
                        with_reducible rfl
                       rotate_left
                       ·simp only [Act.put, List.setIfInBounds_toArray, List.set_cons_zero, List.set_cons_succ, i64_w, i32_w]
                        rfl
                       refine done_ (done_of HT_.out (by kernel_rfl)) ?_
                       try go_wp2
                       have n0_ : Aside0 (Kd.V k24 24 (((((w95.setCell ⟨gb674, 0, none⟩ (.int .i64 t666)).setCell ⟨gb674, 1, none⟩ (.string t667)).setCell ⟨gb674, 2, none⟩ (.int .i64 t668)).setCell ⟨gb674, 3, none⟩ (.int .i64 t669)).setCell ⟨gb674, 4, none⟩ (.slice Ao100 t670.length co100)) w.heap.size (fun k_ => some k_ ≠ (.slice Ao47 t638.length co47 : Value).ownBlock ∧ some k_ ≠ (.slice Ao100 t670.length co100 : Value).ownBlock ∧ k_ ≠ gb626 ∧ k_ ≠ gb642 ∧ k_ ≠ gb652 ∧ k_ ≠ gb674) (.slice A69 y653.length c69) y653) := ⟨by (with_reducible repeat (first | apply Kd.V_alloc | apply Kd.V_drewN | apply Kd.V_drew)); exact Kd.V_mono (Kd.V_far (p := ⟨gb674, 4, none⟩) (Kd.V_far (p := ⟨gb674, 3, none⟩) (Kd.V_far (p := ⟨gb674, 2, none⟩) (Kd.V_far (p := ⟨gb674, 1, none⟩) (Kd.V_far (p := ⟨gb674, 0, none⟩) (Kd.V_mono HO_91.out (fun k_ hk => (⟨hk, hk.2.2.2.2.2⟩ : _ ∧ k_ ≠ gb674))) (fun _ hk => hk.2) (.int .i64 t666)) (fun _ hk => hk.2) (.string t667)) (fun _ hk => hk.2) (.int .i64 t668)) (fun _ hk => hk.2) (.int .i64 t669)) (fun _ hk => hk.2) (.slice Ao100 t670.length co100)) (fun _ hk => ⟨hk.1.2.1, ⟨hk.1.1, ⟨hk.1.2.2.1, ⟨hk.1.2.2.2.1, ⟨hk.1.2.2.2.2.1, hk.1.2.2.2.2.2⟩⟩⟩⟩⟩)⟩
                       have n1_ : Aside0 (Kd.R k24 24 (((((w95.setCell ⟨gb674, 0, none⟩ (.int .i64 t666)).setCell ⟨gb674, 1, none⟩ (.string t667)).setCell ⟨gb674, 2, none⟩ (.int .i64 t668)).setCell ⟨gb674, 3, none⟩ (.int .i64 t669)).setCell ⟨gb674, 4, none⟩ (.slice Ao100 t670.length co100)) w.heap.size (fun k_ => some k_ ≠ (.slice Ao100 t670.length co100 : Value).ownBlock ∧ k_ ≠ gb626 ∧ k_ ≠ gb642 ∧ k_ ≠ gb652 ∧ k_ ≠ gb674) (.slice Ao47 t638.length co47) t638) := ⟨by (with_reducible repeat (first | apply Kd.R_alloc | apply Kd.R_drewN | apply Kd.R_drew)); exact Kd.R_mono (Kd.R_far (p := ⟨gb674, 4, none⟩) (Kd.R_far (p := ⟨gb674, 3, none⟩) (Kd.R_far (p := ⟨gb674, 2, none⟩) (Kd.R_far (p := ⟨gb674, 1, none⟩) (Kd.R_far (p := ⟨gb674, 0, none⟩) (Kd.R_mono HO_643004.out (fun k_ hk => (⟨hk, hk.2.2.2.2⟩ : _ ∧ k_ ≠ gb674))) (fun _ hk => hk.2) (.int .i64 t666)) (fun _ hk => hk.2) (.string t667)) (fun _ hk => hk.2) (.int .i64 t668)) (fun _ hk => hk.2) (.int .i64 t669)) (fun _ hk => hk.2) (.slice Ao100 t670.length co100)) (fun _ hk => ⟨hk.1.1, ⟨hk.1.2.1, ⟨hk.1.2.2.1, ⟨hk.1.2.2.2.1, hk.1.2.2.2.2⟩⟩⟩⟩)⟩
                       have n2_ : Aside0 (Kd.V k24 24 (((((w95.setCell ⟨gb674, 0, none⟩ (.int .i64 t666)).setCell ⟨gb674, 1, none⟩ (.string t667)).setCell ⟨gb674, 2, none⟩ (.int .i64 t668)).setCell ⟨gb674, 3, none⟩ (.int .i64 t669)).setCell ⟨gb674, 4, none⟩ (.slice Ao100 t670.length co100)) w.heap.size (fun k_ => some k_ ≠ (.slice Ao47 t638.length co47 : Value).ownBlock ∧ some k_ ≠ (.slice Ao100 t670.length co100 : Value).ownBlock ∧ k_ ≠ gb626 ∧ k_ ≠ gb642 ∧ k_ ≠ gb652 ∧ k_ ≠ gb674) (.slice Ao55 t648.length co55) t648) := ⟨by (with_reducible repeat (first | apply Kd.V_alloc | apply Kd.V_drewN | apply Kd.V_drew)); exact Kd.V_mono (Kd.V_far (p := ⟨gb674, 4, none⟩) (Kd.V_far (p := ⟨gb674, 3, none⟩) (Kd.V_far (p := ⟨gb674, 2, none⟩) (Kd.V_far (p := ⟨gb674, 1, none⟩) (Kd.V_far (p := ⟨gb674, 0, none⟩) (Kd.V_mono HO_653004.out (fun k_ hk => (⟨hk, hk.2.2.2.2.2⟩ : _ ∧ k_ ≠ gb674))) (fun _ hk => hk.2) (.int .i64 t666)) (fun _ hk => hk.2) (.string t667)) (fun _ hk => hk.2) (.int .i64 t668)) (fun _ hk => hk.2) (.int .i64 t669)) (fun _ hk => hk.2) (.slice Ao100 t670.length co100)) (fun _ hk => ⟨hk.1.2.1, ⟨hk.1.1, ⟨hk.1.2.2.1, ⟨hk.1.2.2.2.1, ⟨hk.1.2.2.2.2.1, hk.1.2.2.2.2.2⟩⟩⟩⟩⟩)⟩
                       have n3_ : Aside0 (Kd.V k24 24 (((((w95.setCell ⟨gb674, 0, none⟩ (.int .i64 t666)).setCell ⟨gb674, 1, none⟩ (.string t667)).setCell ⟨gb674, 2, none⟩ (.int .i64 t668)).setCell ⟨gb674, 3, none⟩ (.int .i64 t669)).setCell ⟨gb674, 4, none⟩ (.slice Ao100 t670.length co100)) w.heap.size (fun k_ => some k_ ≠ (.slice Ao47 t638.length co47 : Value).ownBlock ∧ some k_ ≠ (.slice Ao100 t670.length co100 : Value).ownBlock ∧ k_ ≠ gb626 ∧ k_ ≠ gb642 ∧ k_ ≠ gb652 ∧ k_ ≠ gb674) (.slice A92 y661.length c92) y661) := ⟨by (with_reducible repeat (first | apply Kd.V_alloc | apply Kd.V_drewN | apply Kd.V_drew)); exact Kd.V_mono (Kd.V_far (p := ⟨gb674, 4, none⟩) (Kd.V_far (p := ⟨gb674, 3, none⟩) (Kd.V_far (p := ⟨gb674, 2, none⟩) (Kd.V_far (p := ⟨gb674, 1, none⟩) (Kd.V_far (p := ⟨gb674, 0, none⟩) (Kd.V_mono HO665.out (fun k_ hk => (⟨hk, hk.2.2.2.2.2⟩ : _ ∧ k_ ≠ gb674))) (fun _ hk => hk.2) (.int .i64 t666)) (fun _ hk => hk.2) (.string t667)) (fun _ hk => hk.2) (.int .i64 t668)) (fun _ hk => hk.2) (.int .i64 t669)) (fun _ hk => hk.2) (.slice Ao100 t670.length co100)) (fun _ hk => ⟨hk.1.2.1, ⟨hk.1.1, ⟨hk.1.2.2.1, ⟨hk.1.2.2.2.1, ⟨hk.1.2.2.2.2.1, hk.1.2.2.2.2.2⟩⟩⟩⟩⟩)⟩
                       have n4_ : Aside0 (Kd.R k24 24 (((((w95.setCell ⟨gb674, 0, none⟩ (.int .i64 t666)).setCell ⟨gb674, 1, none⟩ (.string t667)).setCell ⟨gb674, 2, none⟩ (.int .i64 t668)).setCell ⟨gb674, 3, none⟩ (.int .i64 t669)).setCell ⟨gb674, 4, none⟩ (.slice Ao100 t670.length co100)) w.heap.size (fun k_ => some k_ ≠ (.slice Ao47 t638.length co47 : Value).ownBlock ∧ k_ ≠ gb626 ∧ k_ ≠ gb642 ∧ k_ ≠ gb652 ∧ k_ ≠ gb674) (.slice Ao100 t670.length co100) t670) := ⟨by (with_reducible repeat (first | apply Kd.R_alloc | apply Kd.R_drewN | apply Kd.R_drew)); exact Kd.R_mono (Kd.R_far (p := ⟨gb674, 4, none⟩) (Kd.R_far (p := ⟨gb674, 3, none⟩) (Kd.R_far (p := ⟨gb674, 2, none⟩) (Kd.R_far (p := ⟨gb674, 1, none⟩) (Kd.R_far (p := ⟨gb674, 0, none⟩) (Kd.R_mono HO672.out (fun k_ hk => (⟨hk, hk.2.2.2.2⟩ : _ ∧ k_ ≠ gb674))) (fun _ hk => hk.2) (.int .i64 t666)) (fun _ hk => hk.2) (.string t667)) (fun _ hk => hk.2) (.int .i64 t668)) (fun _ hk => hk.2) (.int .i64 t669)) (fun _ hk => hk.2) (.slice Ao100 t670.length co100)) (fun _ hk => ⟨hk.1.1, ⟨hk.1.2.1, ⟨hk.1.2.2.1, ⟨hk.1.2.2.2.1, hk.1.2.2.2.2⟩⟩⟩⟩)⟩
                       have n5_ : Aside0 ((((((w95.setCell ⟨gb674, 0, none⟩ (.int .i64 t666)).setCell ⟨gb674, 1, none⟩ (.string t667)).setCell ⟨gb674, 2, none⟩ (.int .i64 t668)).setCell ⟨gb674, 3, none⟩ (.int .i64 t669)).setCell ⟨gb674, 4, none⟩ (.slice Ao100 t670.length co100)).heap[gb626]? = some (.cells #[.int .i64 a0_0, .string a0_1, .int .i64 a0_2, .int .i64 a0_3, .slice A0_4 l0_4.length c0_4] 24 (0, 0))) := ⟨by (with_reducible repeat (first | apply blk_drewN | apply blk_drew | apply blk_alloc)); refine blk_far ?_ NB626_674.out _; (with_reducible repeat (first | apply blk_drewN | apply blk_drew | apply blk_alloc)); refine blk_far ?_ NB626_674.out _; (with_reducible repeat (first | apply blk_drewN | apply blk_drew | apply blk_alloc)); refine blk_far ?_ NB626_674.out _; (with_reducible repeat (first | apply blk_drewN | apply blk_drew | apply blk_alloc)); refine blk_far ?_ NB626_674.out _; (with_reducible repeat (first | apply blk_drewN | apply blk_drew | apply blk_alloc)); refine blk_far ?_ NB626_674.out _; (with_reducible repeat (first | apply blk_drewN | apply blk_drew | apply blk_alloc)); exact BK626.out⟩
                       have n6_ : Aside0 ((((((w95.setCell ⟨gb674, 0, none⟩ (.int .i64 t666)).setCell ⟨gb674, 1, none⟩ (.string t667)).setCell ⟨gb674, 2, none⟩ (.int .i64 t668)).setCell ⟨gb674, 3, none⟩ (.int .i64 t669)).setCell ⟨gb674, 4, none⟩ (.slice Ao100 t670.length co100)).heap[gb642]? = some (.cells #[.int .i64 t634, .string t635, .int .i64 t636, .int .i64 t637, .slice Ao47 t638.length co47] 24 (0, 0))) := ⟨by (with_reducible repeat (first | apply blk_drewN | apply blk_drew | apply blk_alloc)); refine blk_far ?_ NB642_674.out _; (with_reducible repeat (first | apply blk_drewN | apply blk_drew | apply blk_alloc)); refine blk_far ?_ NB642_674.out _; (with_reducible repeat (first | apply blk_drewN | apply blk_drew | apply blk_alloc)); refine blk_far ?_ NB642_674.out _; (with_reducible repeat (first | apply blk_drewN | apply blk_drew | apply blk_alloc)); refine blk_far ?_ NB642_674.out _; (with_reducible repeat (first | apply blk_drewN | apply blk_drew | apply blk_alloc)); refine blk_far ?_ NB642_674.out _; (with_reducible repeat (first | apply blk_drewN | apply blk_drew | apply blk_alloc)); exact BK642.out⟩
                       have n7_ : Aside0 ((((((w95.setCell ⟨gb674, 0, none⟩ (.int .i64 t666)).setCell ⟨gb674, 1, none⟩ (.string t667)).setCell ⟨gb674, 2, none⟩ (.int .i64 t668)).setCell ⟨gb674, 3, none⟩ (.int .i64 t669)).setCell ⟨gb674, 4, none⟩ (.slice Ao100 t670.length co100)).heap[gb652]? = some (.cells #[.int .i64 t644, .string t645, .int .i64 t646, .int .i64 t647, .slice Ao55 t648.length co55] 24 (0, 0))) := ⟨by (with_reducible repeat (first | apply blk_drewN | apply blk_drew | apply blk_alloc)); refine blk_far ?_ NB652_674.out _; (with_reducible repeat (first | apply blk_drewN | apply blk_drew | apply blk_alloc)); refine blk_far ?_ NB652_674.out _; (with_reducible repeat (first | apply blk_drewN | apply blk_drew | apply blk_alloc)); refine blk_far ?_ NB652_674.out _; (with_reducible repeat (first | apply blk_drewN | apply blk_drew | apply blk_alloc)); refine blk_far ?_ NB652_674.out _; (with_reducible repeat (first | apply blk_drewN | apply blk_drew | apply blk_alloc)); refine blk_far ?_ NB652_674.out _; (with_reducible repeat (first | apply blk_drewN | apply blk_drew | apply blk_alloc)); exact BK652.out⟩
                       have n8_ : Aside0 ((((((w95.setCell ⟨gb674, 0, none⟩ (.int .i64 t666)).setCell ⟨gb674, 1, none⟩ (.string t667)).setCell ⟨gb674, 2, none⟩ (.int .i64 t668)).setCell ⟨gb674, 3, none⟩ (.int .i64 t669)).setCell ⟨gb674, 4, none⟩ (.slice Ao100 t670.length co100)).heap[gb674]? = some (.cells #[.int .i64 t666, .string t667, .int .i64 t668, .int .i64 t669, .slice Ao100 t670.length co100] 24 (0, 0))) := ⟨by (with_reducible repeat (first | apply blk_drewN | apply blk_drew | apply blk_alloc)); refine blk_put (cs := #[.int .i64 t666, .string t667, .int .i64 t668, .int .i64 t669, .slice none 0 0]) ?_ 4 _ rfl; (with_reducible repeat (first | apply blk_drewN | apply blk_drew | apply blk_alloc)); refine blk_put (cs := #[.int .i64 t666, .string t667, .int .i64 t668, .int .i64 0, .slice none 0 0]) ?_ 3 _ rfl; (with_reducible repeat (first | apply blk_drewN | apply blk_drew | apply blk_alloc)); refine blk_put (cs := #[.int .i64 t666, .string t667, .int .i64 0, .int .i64 0, .slice none 0 0]) ?_ 2 _ rfl; (with_reducible repeat (first | apply blk_drewN | apply blk_drew | apply blk_alloc)); refine blk_put (cs := #[.int .i64 t666, .string (⟨#[]⟩ : ByteArray), .int .i64 0, .int .i64 0, .slice none 0 0]) ?_ 1 _ rfl; (with_reducible repeat (first | apply blk_drewN | apply blk_drew | apply blk_alloc)); refine blk_put (cs := #[.int .i64 0, .string (⟨#[]⟩ : ByteArray), .int .i64 0, .int .i64 0, .slice none 0 0]) ?_ 0 _ rfl; (with_reducible repeat (first | apply blk_drewN | apply blk_drew | apply blk_alloc)); exact BK674.out⟩
                       have n9_ : Aside0 (Below w.heap.size w (((((w95.setCell ⟨gb674, 0, none⟩ (.int .i64 t666)).setCell ⟨gb674, 1, none⟩ (.string t667)).setCell ⟨gb674, 2, none⟩ (.int .i64 t668)).setCell ⟨gb674, 3, none⟩ (.int .i64 t669)).setCell ⟨gb674, 4, none⟩ (.slice Ao100 t670.length co100))) := ⟨by repeat (first | (with_reducible first | exact HB.out | apply below_alloc | apply pw_below_drewN | apply below_drew1 | refine below_set ?_ GE626.out | refine below_set ?_ GE642.out | refine below_set ?_ GE652.out | refine below_set ?_ GE674.out) | exact HB.out)⟩
                       (try clear HO_91)
                       (try clear HO_643004)
                       (try clear HO_653004)
                       (try clear HO665)
                       (try clear HO672)
                       (try clear BK626)
                       (try clear BK642)
                       (try clear BK652)
                       (try clear BK674)
                       (try clear HB)
                       generalize (((((w95.setCell ⟨gb674, 0, none⟩ (.int .i64 t666)).setCell ⟨gb674, 1, none⟩ (.string t667)).setCell ⟨gb674, 2, none⟩ (.int .i64 t668)).setCell ⟨gb674, 3, none⟩ (.int .i64 t669)).setCell ⟨gb674, 4, none⟩ (.slice Ao100 t670.length co100)) = w102 at n0_ n1_ n2_ n3_ n4_ n5_ n6_ n7_ n8_ n9_ ⊢
                       have HO_91 := n0_
                       have HO_643004 := n1_
                       have HO_653004 := n2_
                       have HO665 := n3_
                       have HO672 := n4_
                       have BK626 := n5_
                       have BK642 := n6_
                       have BK652 := n7_
                       have BK674 := n8_
                       have HB := n9_
                       clear n0_ n1_ n2_ n3_ n4_ n5_ n6_ n7_ n8_ n9_
                       have n0_ := Aside0.mk (Kd.V_drew HO_91.out)
                       have n1_ := Aside0.mk (Kd.R_drew HO_643004.out)
                       have n2_ := Aside0.mk (Kd.V_drew HO_653004.out)
                       have n3_ := Aside0.mk (Kd.V_drew HO665.out)
                       have n4_ := Aside0.mk (Kd.R_drew HO672.out)
                       have n5_ := Aside0.mk (blk_drew BK626.out)
                       have n6_ := Aside0.mk (blk_drew BK642.out)
                       have n7_ := Aside0.mk (blk_drew BK652.out)
                       have n8_ := Aside0.mk (blk_drew BK674.out)
                       have n9_ := Aside0.mk (below_drew1 HB.out)
                       clear HO_91
                       clear HO_643004
                       clear HO_653004
                       clear HO665
                       clear HO672
                       clear BK626
                       clear BK642
                       clear BK652
                       clear BK674
                       clear HB
                       have HO_91 := n0_
                       have HO_643004 := n1_
                       have HO_653004 := n2_
                       have HO665 := n3_
                       have HO672 := n4_
                       have BK626 := n5_
                       have BK642 := n6_
                       have BK652 := n7_
                       have BK674 := n8_
                       have HB := n9_
                       clear n0_ n1_ n2_ n3_ n4_ n5_ n6_ n7_ n8_ n9_
                       refine start_ (n := 20) (S := fun w' => w'.cell? ⟨gb674, 0, none⟩ = some (.int .i64 t666) ∧ w'.cell? ⟨gb674, 1, none⟩ = some (.string t667) ∧ w'.cell? ⟨gb674, 2, none⟩ = some (.int .i64 t668) ∧ w'.cell? ⟨gb674, 3, none⟩ = some (.int .i64 t669) ∧ w'.cell? ⟨gb674, 4, none⟩ = some (.slice Ao100 t670.length co100) ∧ w'.cell? ⟨gb626, 0, none⟩ = some (.int .i64 a0_0) ∧ w'.cell? ⟨gb626, 1, none⟩ = some (.string a0_1) ∧ w'.cell? ⟨gb626, 2, none⟩ = some (.int .i64 a0_2) ∧ w'.cell? ⟨gb626, 3, none⟩ = some (.int .i64 a0_3) ∧ w'.cell? ⟨gb626, 4, none⟩ = some (.slice A0_4 l0_4.length c0_4) ∧ w'.cell? ⟨gb642, 0, none⟩ = some (.int .i64 t634) ∧ w'.cell? ⟨gb642, 1, none⟩ = some (.string t635) ∧ w'.cell? ⟨gb642, 2, none⟩ = some (.int .i64 t636) ∧ w'.cell? ⟨gb642, 3, none⟩ = some (.int .i64 t637) ∧ w'.cell? ⟨gb642, 4, none⟩ = some (.slice Ao47 t638.length co47)) (ds := []) #[false, false, false, false, false, false, false, false, false, false, false, false, false, false, false, false, false, false, false, false] (by kernel_rfl) rfl rfl ⟨(blk_cell BK674.out 0).trans rfl, (blk_cell BK674.out 1).trans rfl, (blk_cell BK674.out 2).trans rfl, (blk_cell BK674.out 3).trans rfl, (blk_cell BK674.out 4).trans rfl, (blk_cell BK626.out 0).trans rfl, (blk_cell BK626.out 1).trans rfl, (blk_cell BK626.out 2).trans rfl, (blk_cell BK626.out 3).trans rfl, (blk_cell BK626.out 4).trans rfl, (blk_cell BK642.out 0).trans rfl, (blk_cell BK642.out 1).trans rfl, (blk_cell BK642.out 2).trans rfl, (blk_cell BK642.out 3).trans rfl, (blk_cell BK642.out 4).trans rfl⟩ (fun hHeld => ?_); refine with_tabW assessorlaw03_TreeRestores.tab23 assessorlaw03_TreeRestores.bits23 (fun HT_ HW_ => ?_)
                       generalize w102.drew = w103 at HO_91 HO_643004 HO_653004 HO665 HO672 BK626 BK642 BK652 BK674 HB hHeld ⊢
                       refine pure_ (i := 0) (N := some 118) (v := ?_) (a' := ?_) #[true, false, false, false, false, false, false, false, false, false, false, false, false, false, false, false, false, false, false, false] rfl rfl (any_of HT_.out (by kernel_rfl)) (fun _ _ _ h => h) (Or.inl ⟨by rfl, ?_⟩) ?_ ?_
                       rotate_left
                       ·intro w'
                        go_simp
                        with_reducible rfl
                       rotate_left
                       ·simp only [Act.put, List.setIfInBounds_toArray, List.set_cons_zero, List.set_cons_succ, i64_w, i32_w]
                        rfl
                       refine pure_ (i := 1) (N := some 119) (v := ?_) (a' := ?_) #[true, true, false, false, false, false, false, false, false, false, false, false, false, false, false, false, false, false, false, false] rfl rfl (any_of HT_.out (by kernel_rfl)) (fun _ _ _ h => h) (Or.inl ⟨by rfl, ?_⟩) ?_ ?_
                       rotate_left
                       ·intro w'
                        go_simp
                        with_reducible rfl
                       rotate_left
                       ·simp only [Act.put, List.setIfInBounds_toArray, List.set_cons_zero, List.set_cons_succ, i64_w, i32_w]
                        rfl
                       refine pure_ (i := 2) (N := some 120) (v := ?_) (a' := ?_) #[true, true, true, false, false, false, false, false, false, false, false, false, false, false, false, false, false, false, false, false] rfl rfl (any_of HT_.out (by kernel_rfl)) (fun _ _ _ h => h) (Or.inl ⟨by rfl, ?_⟩) ?_ ?_
                       rotate_left
                       ·intro w'
                        go_simp
                        with_reducible rfl
                       rotate_left
                       ·simp only [Act.put, List.setIfInBounds_toArray, List.set_cons_zero, List.set_cons_succ, i64_w, i32_w]
                        rfl
                       refine take_ (i := 3) (N := some 121) (v := ?_) (a' := ?_) #[true, true, true, true, false, false, false, false, false, false, false, false, false, false, false, false, false, false, false, false] rfl rfl (take_ofW HT_.out HW_.out (by kernel_rfl)) (fun _ _ _ h => h) (Or.inl ⟨by rfl, ?_⟩) hHeld ?_ ?_
                       rotate_left
                       ·rintro w' ⟨s0, s1, s2, s3, s4, s5, s6, s7, s8, s9, s10, s11, s12, s13, s14⟩
                        go_simp
                        with_reducible rfl
                       rotate_left
                       ·simp only [Act.put, List.setIfInBounds_toArray, List.set_cons_zero, List.set_cons_succ, i64_w, i32_w]
                        rfl
                       refine take_ (i := 4) (N := some 122) (v := ?_) (a' := ?_) #[true, true, true, true, true, false, false, false, false, false, false, false, false, false, false, false, false, false, false, false] rfl rfl (take_ofW HT_.out HW_.out (by kernel_rfl)) (fun _ _ _ h => h) (Or.inl ⟨by rfl, ?_⟩) hHeld ?_ ?_
                       rotate_left
                       ·rintro w' ⟨s0, s1, s2, s3, s4, s5, s6, s7, s8, s9, s10, s11, s12, s13, s14⟩
                        go_simp
                        with_reducible rfl
                       rotate_left
                       ·simp only [Act.put, List.setIfInBounds_toArray, List.set_cons_zero, List.set_cons_succ, i64_w, i32_w]
                        rfl
                       refine one_ (i := 5) (N := some 123) #[true, true, true, true, true, true, false, false, false, false, false, false, false, false, false, false, false, false, false, false] rfl rfl (one_of HT_.out (by kernel_rfl)) (by decide) (fun K hK => ?_)
                       refine goes_ Try.func35 (by kernel_rfl) rfl #[.agg #[.int .i64 t666, .string t667, .int .i64 t668, .int .i64 t669, .slice Ao100 t670.length co100], .agg #[.int .i64 a0_0, .string a0_1, .int .i64 a0_2, .int .i64 a0_3, .slice A0_4 l0_4.length c0_4]] (by rfl) rfl rfl (by (try simp only [List.map_toArray, List.map_cons, List.map_nil]); first | done | rfl | (simp only [List.length_drop, List.length_take]; rfl)) ?_
                       with_reducible refine (assessorref03_Equal.calls k4 t666 t667 t668 t669 _ _ t670 a0_0 a0_1 a0_2 a0_3 _ _ l0_4 true _ ?side1 ?side2 ?side3 ?side4 A85.out).mono ?_
                       (case side1 => repeat (first | exact (Kd.R_reads' HO672.out).2.2 | (with_reducible refine Kd.C_alloc ?_ _) | (with_reducible refine Kd.C_drewN ?_ _) | (with_reducible refine Kd.C_drew ?_)))
                       (case side2 => exact (Kd.R_reads' HO672.out).2.1)
                       (case side3 => repeat (first | exact (Kd.C_below HR0_4.out HB.out) | (with_reducible refine Kd.C_alloc ?_ _) | (with_reducible refine Kd.C_drewN ?_ _) | (with_reducible refine Kd.C_drew ?_)))
                       (case side4 => exact HC0_4.out)
                       rintro e w104 ⟨rfl, hb⟩
                       refine ⟨_, rfl, ?_⟩
                       have n0_ := Aside0.mk (Kd.V_below (by (with_reducible repeat (first | apply Kd.V_alloc | apply Kd.V_drewN | apply Kd.V_drew)); exact HO_91.out) hb)
                       have n1_ := Aside0.mk (Kd.R_below (by (with_reducible repeat (first | apply Kd.R_alloc | apply Kd.R_drewN | apply Kd.R_drew)); exact HO_643004.out) hb)
                       have n2_ := Aside0.mk (Kd.V_below (by (with_reducible repeat (first | apply Kd.V_alloc | apply Kd.V_drewN | apply Kd.V_drew)); exact HO_653004.out) hb)
                       have n3_ := Aside0.mk (Kd.V_below (by (with_reducible repeat (first | apply Kd.V_alloc | apply Kd.V_drewN | apply Kd.V_drew)); exact HO665.out) hb)
                       have n4_ := Aside0.mk (Kd.R_below (by (with_reducible repeat (first | apply Kd.R_alloc | apply Kd.R_drewN | apply Kd.R_drew)); exact HO672.out) hb)
                       have n5_ := Aside0.mk (blk_below (g := gb626) (o := .cells #[.int .i64 a0_0, .string a0_1, .int .i64 a0_2, .int .i64 a0_3, .slice A0_4 l0_4.length c0_4] 24 (0, 0)) (by (with_reducible repeat (first | apply blk_drewN | apply blk_drew | apply blk_alloc)); exact BK626.out) hb)
                       have n6_ := Aside0.mk (blk_below (g := gb642) (o := .cells #[.int .i64 t634, .string t635, .int .i64 t636, .int .i64 t637, .slice Ao47 t638.length co47] 24 (0, 0)) (by (with_reducible repeat (first | apply blk_drewN | apply blk_drew | apply blk_alloc)); exact BK642.out) hb)
                       have n7_ := Aside0.mk (blk_below (g := gb652) (o := .cells #[.int .i64 t644, .string t645, .int .i64 t646, .int .i64 t647, .slice Ao55 t648.length co55] 24 (0, 0)) (by (with_reducible repeat (first | apply blk_drewN | apply blk_drew | apply blk_alloc)); exact BK652.out) hb)
                       have n8_ := Aside0.mk (blk_below (g := gb674) (o := .cells #[.int .i64 t666, .string t667, .int .i64 t668, .int .i64 t669, .slice Ao100 t670.length co100] 24 (0, 0)) (by (with_reducible repeat (first | apply blk_drewN | apply blk_drew | apply blk_alloc)); exact BK674.out) hb)
                       have n9_ := Aside0.mk (below_step (by repeat (first | (with_reducible first | exact HB.out | apply below_alloc | apply pw_below_drewN | apply below_drew1 | refine below_set ?_ GE626.out | refine below_set ?_ GE642.out | refine below_set ?_ GE652.out | refine below_set ?_ GE674.out) | exact HB.out)) hb)
                       clear HO_91
                       clear HO_643004
                       clear HO_653004
                       clear HO665
                       clear HO672
                       clear BK626
                       clear BK642
                       clear BK652
                       clear BK674
                       clear HB
                       have HO_91 := n0_
                       have HO_643004 := n1_
                       have HO_653004 := n2_
                       have HO665 := n3_
                       have HO672 := n4_
                       have BK626 := n5_
                       have BK642 := n6_
                       have BK652 := n7_
                       have BK674 := n8_
                       have HB := n9_
                       clear n0_ n1_ n2_ n3_ n4_ n5_ n6_ n7_ n8_ n9_
                       (try clear hb)
                       (try clear hb2)
                       (try clear hk)
                       (try clear hi)
                       refine hK.out _ _ ⟨(blk_cell BK674.out 0).trans rfl, (blk_cell BK674.out 1).trans rfl, (blk_cell BK674.out 2).trans rfl, (blk_cell BK674.out 3).trans rfl, (blk_cell BK674.out 4).trans rfl, (blk_cell BK626.out 0).trans rfl, (blk_cell BK626.out 1).trans rfl, (blk_cell BK626.out 2).trans rfl, (blk_cell BK626.out 3).trans rfl, (blk_cell BK626.out 4).trans rfl, (blk_cell BK642.out 0).trans rfl, (blk_cell BK642.out 1).trans rfl, (blk_cell BK642.out 2).trans rfl, (blk_cell BK642.out 3).trans rfl, (blk_cell BK642.out 4).trans rfl⟩ (fun hHeld => ?_)
                       clear hK K
                       refine norm_ (a' := ?_) ?_ ?_
                       rotate_left
                       ·show Act.put _ (some 123) _ = _
                        simp only [Act.put, List.setIfInBounds_toArray, List.set_cons_zero, List.set_cons_succ, i64_w, i32_w]
                        rfl
                       refine pure_ (i := 6) (N := some 124) (v := ?_) (a' := ?_) #[true, true, true, true, true, true, true, false, false, false, false, false, false, false, false, false, false, false, false, false] rfl rfl (any_of HT_.out (by kernel_rfl)) (fun _ _ _ h => h) (Or.inl ⟨by rfl, ?_⟩) ?_ ?_
                       rotate_left
                       ·intro w'
                        go_simp
                        with_reducible rfl
                       rotate_left
                       ·simp only [Act.put, List.setIfInBounds_toArray, List.set_cons_zero, List.set_cons_succ, i64_w, i32_w]
                        rfl
                       refine pure_ (i := 7) (N := some 125) (v := ?_) (a' := ?_) #[true, true, true, true, true, true, true, true, false, false, false, false, false, false, false, false, false, false, false, false] rfl rfl (any_of HT_.out (by kernel_rfl)) (fun _ _ _ h => h) (Or.inl ⟨by rfl, ?_⟩) ?_ ?_
                       rotate_left
                       ·intro w'
                        go_simp
                        with_reducible rfl
                       rotate_left
                       ·simp only [Act.put, List.setIfInBounds_toArray, List.set_cons_zero, List.set_cons_succ, i64_w, i32_w]
                        rfl
                       refine pure_ (i := 12) (N := some 130) (v := ?_) (a' := ?_) #[true, true, true, true, true, true, true, true, false, false, false, false, true, false, false, false, false, false, false, false] rfl rfl (any_of HT_.out (by kernel_rfl)) (fun _ _ _ h => h) (Or.inl ⟨by rfl, ?_⟩) ?_ ?_
                       rotate_left
                       ·intro w'
                        go_simp
                        with_reducible rfl
                       rotate_left
                       ·simp only [Act.put, List.setIfInBounds_toArray, List.set_cons_zero, List.set_cons_succ, i64_w, i32_w]
                        rfl
                       refine take_ (i := 8) (N := some 126) (v := ?_) (a' := ?_) #[true, true, true, true, true, true, true, true, true, false, false, false, true, false, false, false, false, false, false, false] rfl rfl (take_ofW HT_.out HW_.out (by kernel_rfl)) (fun _ _ _ h => h) (Or.inl ⟨by rfl, ?_⟩) hHeld ?_ ?_
                       rotate_left
                       ·rintro w' ⟨s0, s1, s2, s3, s4, s5, s6, s7, s8, s9, s10, s11, s12, s13, s14⟩
                        go_simp
                        with_reducible rfl
                       rotate_left
                       ·simp only [Act.put, List.setIfInBounds_toArray, List.set_cons_zero, List.set_cons_succ, i64_w, i32_w]
                        rfl
                       refine take_ (i := 10) (N := some 128) (v := ?_) (a' := ?_) #[true, true, true, true, true, true, true, true, true, false, true, false, true, false, false, false, false, false, false, false] rfl rfl (take_ofW HT_.out HW_.out (by kernel_rfl)) (fun _ _ _ h => h) (Or.inl ⟨by rfl, ?_⟩) hHeld ?_ ?_
                       rotate_left
                       ·rintro w' ⟨s0, s1, s2, s3, s4, s5, s6, s7, s8, s9, s10, s11, s12, s13, s14⟩
                        go_simp
                        with_reducible rfl
                       rotate_left
                       ·simp only [Act.put, List.setIfInBounds_toArray, List.set_cons_zero, List.set_cons_succ, i64_w, i32_w]
                        rfl
                       refine one_ (i := 9) (N := some 127) #[true, true, true, true, true, true, true, true, true, true, true, false, true, false, false, false, false, false, false, false] rfl rfl (one_of HT_.out (by kernel_rfl)) (by decide) (fun K hK => ?_)
                       refine goes_ Try.func22 (by kernel_rfl) rfl #[.agg #[.int .i64 t634, .string t635, .int .i64 t636, .int .i64 t637, .slice Ao47 t638.length co47]] (by rfl) rfl rfl (by (try simp only [List.map_toArray, List.map_cons, List.map_nil]); first | done | rfl | (simp only [List.length_drop, List.length_take]; rfl)) ?_
                       with_reducible refine (tree_Count.calls t634 t635 t636 t637 _ _ t638 t676 _ ?side1 ?side2 A87.out).mono ?_
                       (case side1 => repeat (first | exact (Kd.R_reads' HO_643004.out).2.2 | (with_reducible refine Kd.C_alloc ?_ _) | (with_reducible refine Kd.C_drewN ?_ _) | (with_reducible refine Kd.C_drew ?_)))
                       (case side2 => exact (Kd.R_reads' HO_643004.out).2.1)
                       rintro e w105 ⟨rfl, hb⟩
                       refine ⟨_, rfl, ?_⟩
                       have n0_ := Aside0.mk (Kd.V_below (by (with_reducible repeat (first | apply Kd.V_alloc | apply Kd.V_drewN | apply Kd.V_drew)); exact HO_91.out) hb)
                       have n1_ := Aside0.mk (Kd.R_below (by (with_reducible repeat (first | apply Kd.R_alloc | apply Kd.R_drewN | apply Kd.R_drew)); exact HO_643004.out) hb)
                       have n2_ := Aside0.mk (Kd.V_below (by (with_reducible repeat (first | apply Kd.V_alloc | apply Kd.V_drewN | apply Kd.V_drew)); exact HO_653004.out) hb)
                       have n3_ := Aside0.mk (Kd.V_below (by (with_reducible repeat (first | apply Kd.V_alloc | apply Kd.V_drewN | apply Kd.V_drew)); exact HO665.out) hb)
                       have n4_ := Aside0.mk (Kd.R_below (by (with_reducible repeat (first | apply Kd.R_alloc | apply Kd.R_drewN | apply Kd.R_drew)); exact HO672.out) hb)
                       have n5_ := Aside0.mk (blk_below (g := gb626) (o := .cells #[.int .i64 a0_0, .string a0_1, .int .i64 a0_2, .int .i64 a0_3, .slice A0_4 l0_4.length c0_4] 24 (0, 0)) (by (with_reducible repeat (first | apply blk_drewN | apply blk_drew | apply blk_alloc)); exact BK626.out) hb)
                       have n6_ := Aside0.mk (blk_below (g := gb642) (o := .cells #[.int .i64 t634, .string t635, .int .i64 t636, .int .i64 t637, .slice Ao47 t638.length co47] 24 (0, 0)) (by (with_reducible repeat (first | apply blk_drewN | apply blk_drew | apply blk_alloc)); exact BK642.out) hb)
                       have n7_ := Aside0.mk (blk_below (g := gb652) (o := .cells #[.int .i64 t644, .string t645, .int .i64 t646, .int .i64 t647, .slice Ao55 t648.length co55] 24 (0, 0)) (by (with_reducible repeat (first | apply blk_drewN | apply blk_drew | apply blk_alloc)); exact BK652.out) hb)
                       have n8_ := Aside0.mk (blk_below (g := gb674) (o := .cells #[.int .i64 t666, .string t667, .int .i64 t668, .int .i64 t669, .slice Ao100 t670.length co100] 24 (0, 0)) (by (with_reducible repeat (first | apply blk_drewN | apply blk_drew | apply blk_alloc)); exact BK674.out) hb)
                       have n9_ := Aside0.mk (below_step (by repeat (first | (with_reducible first | exact HB.out | apply below_alloc | apply pw_below_drewN | apply below_drew1 | refine below_set ?_ GE626.out | refine below_set ?_ GE642.out | refine below_set ?_ GE652.out | refine below_set ?_ GE674.out) | exact HB.out)) hb)
                       clear HO_91
                       clear HO_643004
                       clear HO_653004
                       clear HO665
                       clear HO672
                       clear BK626
                       clear BK642
                       clear BK652
                       clear BK674
                       clear HB
                       have HO_91 := n0_
                       have HO_643004 := n1_
                       have HO_653004 := n2_
                       have HO665 := n3_
                       have HO672 := n4_
                       have BK626 := n5_
                       have BK642 := n6_
                       have BK652 := n7_
                       have BK674 := n8_
                       have HB := n9_
                       clear n0_ n1_ n2_ n3_ n4_ n5_ n6_ n7_ n8_ n9_
                       (try clear hb)
                       (try clear hb2)
                       (try clear hk)
                       (try clear hi)
                       refine hK.out _ _ ⟨(blk_cell BK674.out 0).trans rfl, (blk_cell BK674.out 1).trans rfl, (blk_cell BK674.out 2).trans rfl, (blk_cell BK674.out 3).trans rfl, (blk_cell BK674.out 4).trans rfl, (blk_cell BK626.out 0).trans rfl, (blk_cell BK626.out 1).trans rfl, (blk_cell BK626.out 2).trans rfl, (blk_cell BK626.out 3).trans rfl, (blk_cell BK626.out 4).trans rfl, (blk_cell BK642.out 0).trans rfl, (blk_cell BK642.out 1).trans rfl, (blk_cell BK642.out 2).trans rfl, (blk_cell BK642.out 3).trans rfl, (blk_cell BK642.out 4).trans rfl⟩ (fun hHeld => ?_)
                       clear hK K
                       refine norm_ (a' := ?_) ?_ ?_
                       rotate_left
                       ·show Act.put _ (some 127) _ = _
                        simp only [Act.put, List.setIfInBounds_toArray, List.set_cons_zero, List.set_cons_succ, i64_w, i32_w]
                        rfl
                       refine one_ (i := 11) (N := some 129) #[true, true, true, true, true, true, true, true, true, true, true, true, true, false, false, false, false, false, false, false] rfl rfl (one_of HT_.out (by kernel_rfl)) (by decide) (fun K hK => ?_)
                       refine goes_ Try.func22 (by kernel_rfl) rfl #[.agg #[.int .i64 a0_0, .string a0_1, .int .i64 a0_2, .int .i64 a0_3, .slice A0_4 l0_4.length c0_4]] (by rfl) rfl rfl (by (try simp only [List.map_toArray, List.map_cons, List.map_nil]); first | done | rfl | (simp only [List.length_drop, List.length_take]; rfl)) ?_
                       with_reducible refine (tree_Count.calls a0_0 a0_1 a0_2 a0_3 _ _ l0_4 t677 _ ?side1 ?side2 A88.out).mono ?_
                       (case side1 => repeat (first | exact (Kd.C_below HR0_4.out HB.out) | (with_reducible refine Kd.C_alloc ?_ _) | (with_reducible refine Kd.C_drewN ?_ _) | (with_reducible refine Kd.C_drew ?_)))
                       (case side2 => exact HC0_4.out)
                       rintro e w106 ⟨rfl, hb⟩
                       refine ⟨_, rfl, ?_⟩
                       have n0_ := Aside0.mk (Kd.V_below (by (with_reducible repeat (first | apply Kd.V_alloc | apply Kd.V_drewN | apply Kd.V_drew)); exact HO_91.out) hb)
                       have n1_ := Aside0.mk (Kd.R_below (by (with_reducible repeat (first | apply Kd.R_alloc | apply Kd.R_drewN | apply Kd.R_drew)); exact HO_643004.out) hb)
                       have n2_ := Aside0.mk (Kd.V_below (by (with_reducible repeat (first | apply Kd.V_alloc | apply Kd.V_drewN | apply Kd.V_drew)); exact HO_653004.out) hb)
                       have n3_ := Aside0.mk (Kd.V_below (by (with_reducible repeat (first | apply Kd.V_alloc | apply Kd.V_drewN | apply Kd.V_drew)); exact HO665.out) hb)
                       have n4_ := Aside0.mk (Kd.R_below (by (with_reducible repeat (first | apply Kd.R_alloc | apply Kd.R_drewN | apply Kd.R_drew)); exact HO672.out) hb)
                       have n5_ := Aside0.mk (blk_below (g := gb626) (o := .cells #[.int .i64 a0_0, .string a0_1, .int .i64 a0_2, .int .i64 a0_3, .slice A0_4 l0_4.length c0_4] 24 (0, 0)) (by (with_reducible repeat (first | apply blk_drewN | apply blk_drew | apply blk_alloc)); exact BK626.out) hb)
                       have n6_ := Aside0.mk (blk_below (g := gb642) (o := .cells #[.int .i64 t634, .string t635, .int .i64 t636, .int .i64 t637, .slice Ao47 t638.length co47] 24 (0, 0)) (by (with_reducible repeat (first | apply blk_drewN | apply blk_drew | apply blk_alloc)); exact BK642.out) hb)
                       have n7_ := Aside0.mk (blk_below (g := gb652) (o := .cells #[.int .i64 t644, .string t645, .int .i64 t646, .int .i64 t647, .slice Ao55 t648.length co55] 24 (0, 0)) (by (with_reducible repeat (first | apply blk_drewN | apply blk_drew | apply blk_alloc)); exact BK652.out) hb)
                       have n8_ := Aside0.mk (blk_below (g := gb674) (o := .cells #[.int .i64 t666, .string t667, .int .i64 t668, .int .i64 t669, .slice Ao100 t670.length co100] 24 (0, 0)) (by (with_reducible repeat (first | apply blk_drewN | apply blk_drew | apply blk_alloc)); exact BK674.out) hb)
                       have n9_ := Aside0.mk (below_step (by repeat (first | (with_reducible first | exact HB.out | apply below_alloc | apply pw_below_drewN | apply below_drew1 | refine below_set ?_ GE626.out | refine below_set ?_ GE642.out | refine below_set ?_ GE652.out | refine below_set ?_ GE674.out) | exact HB.out)) hb)
                       clear HO_91
                       clear HO_643004
                       clear HO_653004
                       clear HO665
                       clear HO672
                       clear BK626
                       clear BK642
                       clear BK652
                       clear BK674
                       clear HB
                       have HO_91 := n0_
                       have HO_643004 := n1_
                       have HO_653004 := n2_
                       have HO665 := n3_
                       have HO672 := n4_
                       have BK626 := n5_
                       have BK642 := n6_
                       have BK652 := n7_
                       have BK674 := n8_
                       have HB := n9_
                       clear n0_ n1_ n2_ n3_ n4_ n5_ n6_ n7_ n8_ n9_
                       (try clear hb)
                       (try clear hb2)
                       (try clear hk)
                       (try clear hi)
                       refine hK.out _ _ ⟨(blk_cell BK674.out 0).trans rfl, (blk_cell BK674.out 1).trans rfl, (blk_cell BK674.out 2).trans rfl, (blk_cell BK674.out 3).trans rfl, (blk_cell BK674.out 4).trans rfl, (blk_cell BK626.out 0).trans rfl, (blk_cell BK626.out 1).trans rfl, (blk_cell BK626.out 2).trans rfl, (blk_cell BK626.out 3).trans rfl, (blk_cell BK626.out 4).trans rfl, (blk_cell BK642.out 0).trans rfl, (blk_cell BK642.out 1).trans rfl, (blk_cell BK642.out 2).trans rfl, (blk_cell BK642.out 3).trans rfl, (blk_cell BK642.out 4).trans rfl⟩ (fun hHeld => ?_)
                       clear hK K
                       refine norm_ (a' := ?_) ?_ ?_
                       rotate_left
                       ·show Act.put _ (some 129) _ = _
                        simp only [Act.put, List.setIfInBounds_toArray, List.set_cons_zero, List.set_cons_succ, i64_w, i32_w]
                        rfl
                       refine pure_ (i := 13) (N := some 131) (v := ?_) (a' := ?_) #[true, true, true, true, true, true, true, true, true, true, true, true, true, true, false, false, false, false, false, false] rfl rfl (any_of HT_.out (by kernel_rfl)) (fun _ _ _ h => h) (Or.inl ⟨by rfl, ?_⟩) ?_ ?_
                       rotate_left
                       ·intro w'
                        go_simp
                        with_reducible rfl
                       rotate_left
                       ·simp only [Act.put, List.setIfInBounds_toArray, List.set_cons_zero, List.set_cons_succ, i64_w, i32_w]
                        rfl
                       refine pure_ (i := 14) (N := some 132) (v := ?_) (a' := ?_) #[true, true, true, true, true, true, true, true, true, true, true, true, true, true, true, false, false, false, false, false] rfl rfl (any_of HT_.out (by kernel_rfl)) (fun _ _ _ h => h) (Or.inl ⟨by rfl, ?_⟩) ?_ ?_
                       rotate_left
                       ·intro w'
                        go_simp
                        with_reducible rfl
                       rotate_left
                       ·simp only [Act.put, List.setIfInBounds_toArray, List.set_cons_zero, List.set_cons_succ, i64_w, i32_w]
                        rfl
                       refine pure_ (i := 15) (N := some 133) (v := ?_) (a' := ?_) #[true, true, true, true, true, true, true, true, true, true, true, true, true, true, true, true, false, false, false, false] rfl rfl (any_of HT_.out (by kernel_rfl)) (fun _ _ _ h => h) (Or.inl ⟨by rfl, ?_⟩) ?_ ?_
                       rotate_left
                       ·intro w'
                        go_simp
                        with_reducible rfl
                       rotate_left
                       ·simp only [Act.put, List.setIfInBounds_toArray, List.set_cons_zero, List.set_cons_succ, i64_w, i32_w]
                        rfl
                       refine pure_ (i := 16) (N := some 134) (v := ?_) (a' := ?_) #[true, true, true, true, true, true, true, true, true, true, true, true, true, true, true, true, true, false, false, false] rfl rfl (any_of HT_.out (by kernel_rfl)) (fun _ _ _ h => h) (Or.inl ⟨by rfl, ?_⟩) ?_ ?_
                       rotate_left
                       ·intro w'
                        go_simp
                        with_reducible rfl
                       rotate_left
                       ·simp only [Act.put, List.setIfInBounds_toArray, List.set_cons_zero, List.set_cons_succ, i64_w, i32_w]
                        rfl
                       refine one_ (i := 17) (N := some 135) #[true, true, true, true, true, true, true, true, true, true, true, true, true, true, true, true, true, true, false, false] rfl rfl (one_of HT_.out (by kernel_rfl)) (by decide) (fun K hK => ?_)
                       refine goes_ Try.func11 (by kernel_rfl) rfl #[] (by rfl) rfl rfl (by (try simp only [List.map_toArray, List.map_cons, List.map_nil]); first | done | rfl | (simp only [List.length_drop, List.length_take]; rfl)) ?_
                       with_reducible refine (assessorlaw03_awake.calls k4  t678 _ A90.out).mono ?_
                       rintro e w107 ⟨rfl, hb⟩
                       refine ⟨_, rfl, ?_⟩
                       have n0_ := Aside0.mk (Kd.V_below (by (with_reducible repeat (first | apply Kd.V_alloc | apply Kd.V_drewN | apply Kd.V_drew)); exact HO_91.out) hb)
                       have n1_ := Aside0.mk (Kd.R_below (by (with_reducible repeat (first | apply Kd.R_alloc | apply Kd.R_drewN | apply Kd.R_drew)); exact HO_643004.out) hb)
                       have n2_ := Aside0.mk (Kd.V_below (by (with_reducible repeat (first | apply Kd.V_alloc | apply Kd.V_drewN | apply Kd.V_drew)); exact HO_653004.out) hb)
                       have n3_ := Aside0.mk (Kd.V_below (by (with_reducible repeat (first | apply Kd.V_alloc | apply Kd.V_drewN | apply Kd.V_drew)); exact HO665.out) hb)
                       have n4_ := Aside0.mk (Kd.R_below (by (with_reducible repeat (first | apply Kd.R_alloc | apply Kd.R_drewN | apply Kd.R_drew)); exact HO672.out) hb)
                       have n5_ := Aside0.mk (blk_below (g := gb626) (o := .cells #[.int .i64 a0_0, .string a0_1, .int .i64 a0_2, .int .i64 a0_3, .slice A0_4 l0_4.length c0_4] 24 (0, 0)) (by (with_reducible repeat (first | apply blk_drewN | apply blk_drew | apply blk_alloc)); exact BK626.out) hb)
                       have n6_ := Aside0.mk (blk_below (g := gb642) (o := .cells #[.int .i64 t634, .string t635, .int .i64 t636, .int .i64 t637, .slice Ao47 t638.length co47] 24 (0, 0)) (by (with_reducible repeat (first | apply blk_drewN | apply blk_drew | apply blk_alloc)); exact BK642.out) hb)
                       have n7_ := Aside0.mk (blk_below (g := gb652) (o := .cells #[.int .i64 t644, .string t645, .int .i64 t646, .int .i64 t647, .slice Ao55 t648.length co55] 24 (0, 0)) (by (with_reducible repeat (first | apply blk_drewN | apply blk_drew | apply blk_alloc)); exact BK652.out) hb)
                       have n8_ := Aside0.mk (blk_below (g := gb674) (o := .cells #[.int .i64 t666, .string t667, .int .i64 t668, .int .i64 t669, .slice Ao100 t670.length co100] 24 (0, 0)) (by (with_reducible repeat (first | apply blk_drewN | apply blk_drew | apply blk_alloc)); exact BK674.out) hb)
                       have n9_ := Aside0.mk (below_step (by repeat (first | (with_reducible first | exact HB.out | apply below_alloc | apply pw_below_drewN | apply below_drew1 | refine below_set ?_ GE626.out | refine below_set ?_ GE642.out | refine below_set ?_ GE652.out | refine below_set ?_ GE674.out) | exact HB.out)) hb)
                       clear HO_91
                       clear HO_643004
                       clear HO_653004
                       clear HO665
                       clear HO672
                       clear BK626
                       clear BK642
                       clear BK652
                       clear BK674
                       clear HB
                       have HO_91 := n0_
                       have HO_643004 := n1_
                       have HO_653004 := n2_
                       have HO665 := n3_
                       have HO672 := n4_
                       have BK626 := n5_
                       have BK642 := n6_
                       have BK652 := n7_
                       have BK674 := n8_
                       have HB := n9_
                       clear n0_ n1_ n2_ n3_ n4_ n5_ n6_ n7_ n8_ n9_
                       (try clear hb)
                       (try clear hb2)
                       (try clear hk)
                       (try clear hi)
                       refine hK.out _ _ ⟨(blk_cell BK674.out 0).trans rfl, (blk_cell BK674.out 1).trans rfl, (blk_cell BK674.out 2).trans rfl, (blk_cell BK674.out 3).trans rfl, (blk_cell BK674.out 4).trans rfl, (blk_cell BK626.out 0).trans rfl, (blk_cell BK626.out 1).trans rfl, (blk_cell BK626.out 2).trans rfl, (blk_cell BK626.out 3).trans rfl, (blk_cell BK626.out 4).trans rfl, (blk_cell BK642.out 0).trans rfl, (blk_cell BK642.out 1).trans rfl, (blk_cell BK642.out 2).trans rfl, (blk_cell BK642.out 3).trans rfl, (blk_cell BK642.out 4).trans rfl⟩ (fun hHeld => ?_)
                       clear hK K
                       refine norm_ (a' := ?_) ?_ ?_
                       rotate_left
                       ·show Act.put _ (some 135) _ = _
                        simp only [Act.put, List.setIfInBounds_toArray, List.set_cons_zero, List.set_cons_succ, i64_w, i32_w]
                        rfl
                       refine pure_ (i := 18) (N := some 136) (v := ?_) (a' := ?_) #[true, true, true, true, true, true, true, true, true, true, true, true, true, true, true, true, true, true, true, false] rfl rfl (any_of HT_.out (by kernel_rfl)) (fun _ _ _ h => h) (Or.inl ⟨by rfl, ?_⟩) ?_ ?_
                       rotate_left
                       ·intro w'
                        go_simp
                        with_reducible rfl
                       rotate_left
                       ·simp only [Act.put, List.setIfInBounds_toArray, List.set_cons_zero, List.set_cons_succ, i64_w, i32_w]
                        rfl
                       refine pure_ (i := 19) (N := some 10) (v := ?_) (a' := ?_) #[true, true, true, true, true, true, true, true, true, true, true, true, true, true, true, true, true, true, true, true] rfl rfl (any_of HT_.out (by kernel_rfl)) (fun _ _ _ h => h) (Or.inl ⟨by rfl, ?_⟩) ?_ ?_
                       rotate_left
                       ·intro w'
                        go_simp
                        with_reducible rfl
                       rotate_left
                       ·simp only [Act.put, List.setIfInBounds_toArray, List.set_cons_zero, List.set_cons_succ, i64_w, i32_w]
                        rfl
                       refine done_ (done_of HT_.out (by kernel_rfl)) ?_
                       try go_wp2
                       go_ret
                       exact ⟨by first | rfl | (simp [errW_none, errW_some] <;> rfl) | (simp [*, errW_none, errW_some] <;> rfl) | (simp [IntKind.wrap_i64, wrap64]; done), by repeat (first | (with_reducible first | exact HB.out | apply below_alloc | apply pw_below_drewN | apply below_drew1 | refine below_set ?_ GE626.out | refine below_set ?_ GE642.out | refine below_set ?_ GE652.out | refine below_set ?_ GE674.out) | exact HB.out)⟩
                      ·rw [if_neg c89] at H
                       exact absurd H (by simp)
                     ·replace c86 := Bool.eq_false_iff.mpr c86
                      subst c86
                      have H1 : (none) = some r := by rw [if_neg (show ¬ (false = true) by decide)] at H; exact H
                      clear H
                      have H := H1
                      clear H1
                      exact absurd H (by simp)
                    ·rw [if_neg c84] at H
                     exact absurd H (by simp)
                   ·rw [if_neg c82] at H
                    exact absurd H (by simp)
                  ·rw [if_neg c81] at H
                   exact absurd H (by simp)
                 ·rw [if_neg c80] at H
                  exact absurd H (by simp)
             ·rw [if_neg c65] at H
              exact absurd H (by simp)
            ·rw [if_neg c64] at H
             exact absurd H (by simp)
           ·rw [if_neg c63] at H
            exact absurd H (by simp)
       ·rw [if_neg c39] at H
        have c39b0 : (t641 == 0) = false := beq_eq_false_iff_ne.mpr c39
        have c39b1 : (t641 != 0) = true := bne_iff_ne.mpr c39
        replace H := Option.bind_eq_some_iff.mp H
        obtain ⟨t643, A1080, H⟩ := H
        replace H : (some t643) = some r := H
        have A108 := Aside0.mk A1080
        clear A1080
        obtain rfl := Option.some.inj H
        have hcz109_0 : wr.cell? ⟨gb626, 0, none⟩ = some (.int .i64 a0_0) := (blk_cell BK626.out 0).trans rfl
        have hcz109_1 : wr.cell? ⟨gb626, 1, none⟩ = some (.string a0_1) := (blk_cell BK626.out 1).trans rfl
        have hcz109_2 : wr.cell? ⟨gb626, 2, none⟩ = some (.int .i64 a0_2) := (blk_cell BK626.out 2).trans rfl
        have hcz109_3 : wr.cell? ⟨gb626, 3, none⟩ = some (.int .i64 a0_3) := (blk_cell BK626.out 3).trans rfl
        have hcz109_4 : wr.cell? ⟨gb626, 4, none⟩ = some (.slice A0_4 l0_4.length c0_4) := (blk_cell BK626.out 4).trans rfl
        have hfz109_0 := blk_frozen BK626.out 0
        have hfz109_1 := blk_frozen BK626.out 1
        have hfz109_2 := blk_frozen BK626.out 2
        have hfz109_3 := blk_frozen BK626.out 3
        have hfz109_4 := blk_frozen BK626.out 4
        go_wp2_with (first | ((with_reducible refine gate_callee (f := 37) rfl ?_); refine goesL_ (some 57) rfl rfl Try.func37 (by kernel_rfl) rfl #[.agg #[.int .i64 a0_0, .string a0_1, .int .i64 a0_2, .int .i64 a0_3, .slice A0_4 l0_4.length c0_4], .slice A1 l1.length c1, .int .i64 a2, .int .i64 a3, .slice A4 l4.length c4] rfl (by (try simp only [List.map_toArray, List.map_cons, List.map_nil]); first | done | rfl | (simp only [List.length_drop, List.length_take]; rfl)) ?_; (with_reducible refine (tree_Replace.calls k2 a0_0 a0_1 a0_2 a0_3 _ _ l0_4 _ _ l1 a2 a3 _ _ l4 t634 t635 t636 t637 t638 t641 _ ?side1 ?side2 ?side3 ?side4 ?side5 ?side6 A38.out).mono ?_); (case side1 => repeat (first | exact (Kd.C_below HR0_4.out HB.out) | (with_reducible refine Kd.C_alloc ?_ _) | (with_reducible refine Kd.C_drewN ?_ _) | (with_reducible refine Kd.C_drew ?_))); (case side2 => exact HC0_4.out); (case side3 => repeat (first | exact (Kd.C_below HR1.out HB.out) | (with_reducible refine Kd.C_alloc ?_ _) | (with_reducible refine Kd.C_drewN ?_ _) | (with_reducible refine Kd.C_drew ?_))); (case side4 => exact HC1.out); (case side5 => repeat (first | exact (Kd.C_below HR4.out HB.out) | (with_reducible refine Kd.C_alloc ?_ _) | (with_reducible refine Kd.C_drewN ?_ _) | (with_reducible refine Kd.C_drew ?_))); (case side6 => exact HC4.out); rintro e w110 ⟨v639, rfl, ho0, hb⟩; refine ⟨_, rfl, ?_⟩; have n0_ := Aside0.mk (Kd.R_lower (Kd.R_newB ho0 (g := gb626) (o := .cells #[.int .i64 a0_0, .string a0_1, .int .i64 a0_2, .int .i64 a0_3, .slice A0_4 l0_4.length c0_4] 24 (0, 0)) (by (with_reducible repeat (first | apply blk_drewN | apply blk_drew | apply blk_alloc)); exact BK626.out)) (below_size (by repeat (first | (with_reducible first | exact HB.out | apply below_alloc | apply pw_below_drewN | apply below_drew1 | refine below_set ?_ GE626.out) | exact HB.out)))); have n1_ := Aside0.mk (blk_below (g := gb626) (o := .cells #[.int .i64 a0_0, .string a0_1, .int .i64 a0_2, .int .i64 a0_3, .slice A0_4 l0_4.length c0_4] 24 (0, 0)) (by (with_reducible repeat (first | apply blk_drewN | apply blk_drew | apply blk_alloc)); exact BK626.out) hb); have n2_ := Aside0.mk (below_step (by repeat (first | (with_reducible first | exact HB.out | apply below_alloc | apply pw_below_drewN | apply below_drew1 | refine below_set ?_ GE626.out) | exact HB.out)) hb); clear BK626; clear HB; have HO640 := n0_; have BK626 := n1_; have HB := n2_; clear n0_ n1_ n2_; (try clear hb); (try clear hb2); (try clear hk); (try clear hi); (try clear ho0)) | ((with_reducible refine gate_dst (N := 14) rfl ?_); (try (refine gate_guard (by rfl) ?_; dsimp only)); refine box_event ?hg (N := 14) ?hd (cs := #[.int .i64 0, .string (⟨#[]⟩ : ByteArray), .int .i64 0, .int .i64 0, .slice none 0 0]) (t := 24) ?hr ?_; (case hd => rfl); (case hg => rfl); (case hr => first | (go_simp; done) | (go_simp; rfl)); intro gb642 hg w111 hbox hb; have n0_ := Aside0.mk (Kd.R_below (Kd.R_elderB (by (with_reducible repeat (first | apply Kd.R_alloc | apply Kd.R_drewN | apply Kd.R_drew)); exact HO640.out) gb642 (Nat.le_of_eq hg.symm)) hb); have n1_ := Aside0.mk (blk_below (g := gb626) (o := .cells #[.int .i64 a0_0, .string a0_1, .int .i64 a0_2, .int .i64 a0_3, .slice A0_4 l0_4.length c0_4] 24 (0, 0)) (by (with_reducible repeat (first | apply blk_drewN | apply blk_drew | apply blk_alloc)); exact BK626.out) hb); have n2_ := Aside0.mk (below_step (by repeat (first | (with_reducible first | exact HB.out | apply below_alloc | apply pw_below_drewN | apply below_drew1 | refine below_set ?_ GE626.out) | exact HB.out)) hb); have n3_ := Aside0.mk (hbox); have n4_ := Aside0.mk ((by rw [hg]; exact (below_size (by repeat (first | (with_reducible first | exact HB.out | apply below_alloc | apply pw_below_drewN | apply below_drew1 | refine below_set ?_ GE626.out) | exact HB.out))) : w.heap.size ≤ gb642)); have n5_ := Aside0.mk ((by rw [hg]; exact (below_size (by repeat (first | (with_reducible first | exact HB.out | apply below_alloc | apply pw_below_drewN | apply below_drew1 | refine below_set ?_ GE626.out) | exact HB.out))) : w.heap.size ≤ gb642)); have n6_ := Aside0.mk ((by rw [hg]; exact Nat.ne_of_lt (blk_lt (g := gb626) (o := .cells #[.int .i64 a0_0, .string a0_1, .int .i64 a0_2, .int .i64 a0_3, .slice A0_4 l0_4.length c0_4] 24 (0, 0)) (by (with_reducible repeat (first | apply blk_drewN | apply blk_drew | apply blk_alloc)); exact BK626.out)) : gb626 ≠ gb642)); have n7_ := Aside0.mk ((by rw [hg]; exact Nat.ne_of_gt (blk_lt (g := gb626) (o := .cells #[.int .i64 a0_0, .string a0_1, .int .i64 a0_2, .int .i64 a0_3, .slice A0_4 l0_4.length c0_4] 24 (0, 0)) (by (with_reducible repeat (first | apply blk_drewN | apply blk_drew | apply blk_alloc)); exact BK626.out)) : gb642 ≠ gb626)); clear HO640; clear BK626; clear HB; have HO640 := n0_; have BK626 := n1_; have HB := n2_; have BK642 := n3_; have GW642 := n4_; have GE642 := n5_; have NB626_642 := n6_; have NB642_626 := n7_; clear n0_ n1_ n2_ n3_ n4_ n5_ n6_ n7_; clear hb hbox hg; have hnb112 := NB642_626.out; have hnc112 := NB626_642.out; have hcz113_0 : w111.cell? ⟨gb642, 0, none⟩ = some (.int .i64 0) := (blk_cell BK642.out 0).trans rfl; have hcz113_1 : w111.cell? ⟨gb642, 1, none⟩ = some (.string (⟨#[]⟩ : ByteArray)) := (blk_cell BK642.out 1).trans rfl; have hcz113_2 : w111.cell? ⟨gb642, 2, none⟩ = some (.int .i64 0) := (blk_cell BK642.out 2).trans rfl; have hcz113_3 : w111.cell? ⟨gb642, 3, none⟩ = some (.int .i64 0) := (blk_cell BK642.out 3).trans rfl; have hcz113_4 : w111.cell? ⟨gb642, 4, none⟩ = some (.slice none 0 0) := (blk_cell BK642.out 4).trans rfl; have hfz113_0 := blk_frozen BK642.out 0; have hfz113_1 := blk_frozen BK642.out 1; have hfz113_2 := blk_frozen BK642.out 2; have hfz113_3 := blk_frozen BK642.out 3; have hfz113_4 := blk_frozen BK642.out 4; obtain ⟨Ao114, co114, eo114⟩ := Kd.R_slice HO640.out; subst eo114) | ((with_reducible refine gate_callee (f := 11) rfl ?_); refine goesL_ (some 62) rfl rfl Try.func11 (by kernel_rfl) rfl #[] rfl (by (try simp only [List.map_toArray, List.map_cons, List.map_nil]); first | done | rfl | (simp only [List.length_drop, List.length_take]; rfl)) ?_; (with_reducible refine (assessorlaw03_awake.calls k2  t643 _ A108.out).mono ?_); rintro e w115 ⟨rfl, hb⟩; refine ⟨_, rfl, ?_⟩; have n0_ := Aside0.mk (Kd.R_below (by (with_reducible repeat (first | apply Kd.R_alloc | apply Kd.R_drewN | apply Kd.R_drew)); exact (Kd.R_mono (Kd.R_far (p := ⟨gb642, 4, none⟩) (Kd.R_far (p := ⟨gb642, 3, none⟩) (Kd.R_far (p := ⟨gb642, 2, none⟩) (Kd.R_far (p := ⟨gb642, 1, none⟩) (Kd.R_far (p := ⟨gb642, 0, none⟩) (Kd.R_mono HO640.out (fun k_ hk => (⟨hk, hk.2⟩ : _ ∧ k_ ≠ gb642))) (fun _ hk => hk.2) (.int .i64 t634)) (fun _ hk => hk.2) (.string t635)) (fun _ hk => hk.2) (.int .i64 t636)) (fun _ hk => hk.2) (.int .i64 t637)) (fun _ hk => hk.2) (.slice Ao114 t638.length co114)) (fun _ h_ => h_.1))) hb); have n1_ := Aside0.mk (blk_below (g := gb626) (o := .cells #[.int .i64 a0_0, .string a0_1, .int .i64 a0_2, .int .i64 a0_3, .slice A0_4 l0_4.length c0_4] 24 (0, 0)) (by (with_reducible repeat (first | apply blk_drewN | apply blk_drew | apply blk_alloc)); refine blk_far ?_ NB626_642.out _; (with_reducible repeat (first | apply blk_drewN | apply blk_drew | apply blk_alloc)); refine blk_far ?_ NB626_642.out _; (with_reducible repeat (first | apply blk_drewN | apply blk_drew | apply blk_alloc)); refine blk_far ?_ NB626_642.out _; (with_reducible repeat (first | apply blk_drewN | apply blk_drew | apply blk_alloc)); refine blk_far ?_ NB626_642.out _; (with_reducible repeat (first | apply blk_drewN | apply blk_drew | apply blk_alloc)); refine blk_far ?_ NB626_642.out _; (with_reducible repeat (first | apply blk_drewN | apply blk_drew | apply blk_alloc)); exact BK626.out) hb); have n2_ := Aside0.mk (blk_below (g := gb642) (o := .cells #[.int .i64 t634, .string t635, .int .i64 t636, .int .i64 t637, .slice Ao114 t638.length co114] 24 (0, 0)) (by (with_reducible repeat (first | apply blk_drewN | apply blk_drew | apply blk_alloc)); refine blk_put (cs := #[.int .i64 t634, .string t635, .int .i64 t636, .int .i64 t637, .slice none 0 0]) ?_ 4 _ rfl; (with_reducible repeat (first | apply blk_drewN | apply blk_drew | apply blk_alloc)); refine blk_put (cs := #[.int .i64 t634, .string t635, .int .i64 t636, .int .i64 0, .slice none 0 0]) ?_ 3 _ rfl; (with_reducible repeat (first | apply blk_drewN | apply blk_drew | apply blk_alloc)); refine blk_put (cs := #[.int .i64 t634, .string t635, .int .i64 0, .int .i64 0, .slice none 0 0]) ?_ 2 _ rfl; (with_reducible repeat (first | apply blk_drewN | apply blk_drew | apply blk_alloc)); refine blk_put (cs := #[.int .i64 t634, .string (⟨#[]⟩ : ByteArray), .int .i64 0, .int .i64 0, .slice none 0 0]) ?_ 1 _ rfl; (with_reducible repeat (first | apply blk_drewN | apply blk_drew | apply blk_alloc)); refine blk_put (cs := #[.int .i64 0, .string (⟨#[]⟩ : ByteArray), .int .i64 0, .int .i64 0, .slice none 0 0]) ?_ 0 _ rfl; (with_reducible repeat (first | apply blk_drewN | apply blk_drew | apply blk_alloc)); exact BK642.out) hb); have n3_ := Aside0.mk (below_step (by repeat (first | (with_reducible first | exact HB.out | apply below_alloc | apply pw_below_drewN | apply below_drew1 | refine below_set ?_ GE626.out | refine below_set ?_ GE642.out) | exact HB.out)) hb); clear HO640; clear BK626; clear BK642; clear HB; have HO640 := n0_; have BK626 := n1_; have BK642 := n2_; have HB := n3_; clear n0_ n1_ n2_ n3_; (try clear hb); (try clear hb2); (try clear hk); (try clear hi)))
        go_ret
        exact ⟨by first | rfl | (simp [errW_none, errW_some] <;> rfl) | (simp [*, errW_none, errW_some] <;> rfl) | (simp [IntKind.wrap_i64, wrap64]; done), by repeat (first | (with_reducible first | exact HB.out | apply below_alloc | apply pw_below_drewN | apply below_drew1 | refine below_set ?_ GE626.out | refine below_set ?_ GE642.out) | exact HB.out)⟩

end Go.Proofs.Ytbheobngeocdfaa.PAll
