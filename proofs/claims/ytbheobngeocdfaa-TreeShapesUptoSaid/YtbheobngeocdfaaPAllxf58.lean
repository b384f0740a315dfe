/- What the machine's calls come to, function by function: printed by a program of this session after the kit's print; Lean checks it. SLIM -/
import Derived.Test.YtbheobngeocdfaaPAllx0
namespace Go.Proofs.Ytbheobngeocdfaa.PAll
open Go.RowKit Go.Proofs.YtbheobngeocdfaaW.PrintWords Go.Proofs.YtbheobngeocdfaaW.PrintLast Go.Proofs.YtbheobngeocdfaaW.PrintMore
attribute [local go_sem] max2_int min2_int max_two min_two max_three min_three max_four min_four   -- for this text's walks alone
set_option linter.unusedVariables false
set_option linter.unusedSimpArgs false

/-! ### assessorref03_most: function 58 -/
mutual
def assessorref03_most.j0 : Nat → Int → Bool → Option (Int × Int)
 | 0, _, _ => none
 | k + 1, x4, x5 => if x5 = true then (some (0, 4096)) else (if x4 = 3 then (assessorref03_most.j1 k x4 (x4 == 3)) else (assessorref03_most.j1 k x4 (x4 == 26)))
def assessorref03_most.j1 : Nat → Int → Bool → Option (Int × Int)
 | 0, _, _ => none
 | k + 1, x4, x11 => if x11 = true then (some (1, 4096)) else (if x4 = 5 then (assessorref03_most.j2 k x4 (x4 == 5)) else (if x4 = 14 then (assessorref03_most.j2 k x4 (x4 == 14)) else (assessorref03_most.j2 k x4 (x4 == 16))))
def assessorref03_most.j2 : Nat → Int → Bool → Option (Int × Int)
 | 0, _, _ => none
 | k + 1, x4, x14 => if x14 = true then (some (3, 3)) else (if x4 = 12 then (assessorref03_most.j3 k x4 (x4 == 12)) else (if x4 = 13 then (assessorref03_most.j3 k x4 (x4 == 13)) else (if x4 = 15 then (assessorref03_most.j3 k x4 (x4 == 15)) else (if x4 = 21 then (assessorref03_most.j3 k x4 (x4 == 21)) else (assessorref03_most.j3 k x4 (x4 == 29))))))
def assessorref03_most.j3 : Nat → Int → Bool → Option (Int × Int)
 | 0, _, _ => none
 | k + 1, x4, x18 => if x18 = true then (some (2, 2)) else (if x4 = 4 then (some (1, 1)) else (if x4 = 7 then (some (1, 1)) else (if x4 = 8 then (some (1, 1)) else (if x4 = 17 then (some (1, 1)) else (if x4 = 18 then (some (1, 1)) else (if x4 = 22 then (some (1, 1)) else (if x4 = 23 then (some (1, 1)) else (if x4 = 28 then (some (1, 1)) else (some (0, 0))))))))))
end
def assessorref03_most.f (k : Nat) (a0 : Int) : Option (Int × Int) := if a0 = 2 then (assessorref03_most.j0 k a0 (a0 == 2)) else (if a0 = 6 then (assessorref03_most.j0 k a0 (a0 == 6)) else (if a0 = 11 then (assessorref03_most.j0 k a0 (a0 == 11)) else (if a0 = 19 then (assessorref03_most.j0 k a0 (a0 == 19)) else (assessorref03_most.j0 k a0 (a0 == 27)))))
theorem assessorref03_most.mono_l : ∀ k, (∀ y0 y1, LeO (assessorref03_most.j0 k y0 y1) (assessorref03_most.j0 (k + 1) y0 y1)) ∧ (∀ y0 y1, LeO (assessorref03_most.j1 k y0 y1) (assessorref03_most.j1 (k + 1) y0 y1)) ∧ (∀ y0 y1, LeO (assessorref03_most.j2 k y0 y1) (assessorref03_most.j2 (k + 1) y0 y1)) ∧ (∀ y0 y1, LeO (assessorref03_most.j3 k y0 y1) (assessorref03_most.j3 (k + 1) y0 y1))
 | 0 => ⟨fun _ _ r h => by simp [assessorref03_most.j0] at h, fun _ _ r h => by simp [assessorref03_most.j1] at h, fun _ _ r h => by simp [assessorref03_most.j2] at h, fun _ _ r h => by simp [assessorref03_most.j3] at h⟩
 | k + 1 => by
  obtain ⟨ih0, ih1, ih2, ih3⟩ := assessorref03_most.mono_l k
  refine ⟨?_, ?_, ?_, ?_⟩
  ·intro y0 y1
   unfold assessorref03_most.j0
   repeat' first
   | (with_reducible exact ih0 _ _)
   | (with_reducible exact ih1 _ _)
   | (with_reducible exact ih2 _ _)
   | (with_reducible exact ih3 _ _)
   | (with_reducible exact LeO.refl _)
   | (with_reducible exact LeO.none _)
   | (with_reducible refine LeO.ite ?_ ?_)
   | (with_reducible refine LeO.bind ?_ (fun _ => ?_))
   | exact ih0 _ _
   | exact ih1 _ _
   | exact ih2 _ _
   | exact ih3 _ _
   | exact LeO.none _
   | refine LeO.ite ?_ ?_
   | refine LeO.bind ?_ (fun _ => ?_)
  ·intro y0 y1
   unfold assessorref03_most.j1
   repeat' first
   | (with_reducible exact ih0 _ _)
   | (with_reducible exact ih1 _ _)
   | (with_reducible exact ih2 _ _)
   | (with_reducible exact ih3 _ _)
   | (with_reducible exact LeO.refl _)
   | (with_reducible exact LeO.none _)
   | (with_reducible refine LeO.ite ?_ ?_)
   | (with_reducible refine LeO.bind ?_ (fun _ => ?_))
   | exact ih0 _ _
   | exact ih1 _ _
   | exact ih2 _ _
   | exact ih3 _ _
   | exact LeO.none _
   | refine LeO.ite ?_ ?_
   | refine LeO.bind ?_ (fun _ => ?_)
  ·intro y0 y1
   unfold assessorref03_most.j2
   repeat' first
   | (with_reducible exact ih0 _ _)
   | (with_reducible exact ih1 _ _)
   | (with_reducible exact ih2 _ _)
   | (with_reducible exact ih3 _ _)
   | (with_reducible exact LeO.refl _)
   | (with_reducible exact LeO.none _)
   | (with_reducible refine LeO.ite ?_ ?_)
   | (with_reducible refine LeO.bind ?_ (fun _ => ?_))
   | exact ih0 _ _
   | exact ih1 _ _
   | exact ih2 _ _
   | exact ih3 _ _
   | exact LeO.none _
   | refine LeO.ite ?_ ?_
   | refine LeO.bind ?_ (fun _ => ?_)
  ·intro y0 y1
   unfold assessorref03_most.j3
   repeat' first
   | (with_reducible exact ih0 _ _)
   | (with_reducible exact ih1 _ _)
   | (with_reducible exact ih2 _ _)
   | (with_reducible exact ih3 _ _)
   | (with_reducible exact LeO.refl _)
   | (with_reducible exact LeO.none _)
   | (with_reducible refine LeO.ite ?_ ?_)
   | (with_reducible refine LeO.bind ?_ (fun _ => ?_))
   | exact ih0 _ _
   | exact ih1 _ _
   | exact ih2 _ _
   | exact ih3 _ _
   | exact LeO.none _
   | refine LeO.ite ?_ ?_
   | refine LeO.bind ?_ (fun _ => ?_)
theorem assessorref03_most.mono : ∀ a0 k, LeO (assessorref03_most.f k a0) (assessorref03_most.f (k + 1) a0) := by
 intro a0 k
 obtain ⟨ih0, ih1, ih2, ih3⟩ := assessorref03_most.mono_l k
 unfold assessorref03_most.f
 repeat' first
   | (with_reducible exact ih0 _ _)
   | (with_reducible exact ih1 _ _)
   | (with_reducible exact ih2 _ _)
   | (with_reducible exact ih3 _ _)
   | (with_reducible exact LeO.refl _)
   | (with_reducible exact LeO.none _)
   | (with_reducible refine LeO.ite ?_ ?_)
   | (with_reducible refine LeO.bind ?_ (fun _ => ?_))
   | exact ih0 _ _
   | exact ih1 _ _
   | exact ih2 _ _
   | exact ih3 _ _
   | exact LeO.none _
   | refine LeO.ite ?_ ?_
   | refine LeO.bind ?_ (fun _ => ?_)
set_option maxHeartbeats 8000000 in
set_option maxRecDepth 100000 in
theorem assessorref03_most.calls (k : Nat) (a0 : Int) (r1 : Int) (r2 : Int) (w : World) (h : assessorref03_most.f k a0 = some (r1, r2)) :
  Calls Try.prog 58 #[.int .i64 a0] w fun e w' => e = .returned (.tuple #[.int .i64 r1, .int .i64 r2]) ∧ Drawn0 w w' := by
 have H : (if a0 = 2 then (assessorref03_most.j0 k a0 (a0 == 2)) else (if a0 = 6 then (assessorref03_most.j0 k a0 (a0 == 6)) else (if a0 = 11 then (assessorref03_most.j0 k a0 (a0 == 11)) else (if a0 = 19 then (assessorref03_most.j0 k a0 (a0 == 19)) else (assessorref03_most.j0 k a0 (a0 == 27)))))) = some (r1, r2) := h
 clear h
 have HC2 := Aside0.mk H
 clear H
 go_enter Try.func58, Try.ntmps58
 go_upto_if 5 with (fail)
 go_cut [5] (fun v5 wc => ∃ (kq : Nat) (x5_1 : Bool), v5 = .bool x5_1 ∧ Aside0 (assessorref03_most.j0 kq a0 x5_1 = some (r1, r2)) ∧ Aside0 (kq ≤ k) ∧ Drawn0 w wc)
 case first =>
  have H := HC2.out
  clear HC2
  by_cases c3 : a0 = 2
  ·rw [if_pos c3] at H
   have c3b0 : (a0 == 2) = true := beq_iff_eq.mpr c3
   have c3b1 : (a0 != 2) = false := bne_eq_false_iff_eq.mpr c3
   clear c3
   (first | rw [c3b0] | (simp only [i64_w, i32_w]; rw [c3b0]) | skip)
   have H' := Aside0.mk H
   clear H
   go_wp2
   go_meet
   case rel => exact ⟨_, ((a0 == 2)), (by first | rfl | (simp; done) | (simp [*]; done)), H', ⟨by first | omega | exact Nat.le_refl _⟩, by repeat (first | exact Drawn0.refl _ | apply Drawn0.step)⟩
  ·rw [if_neg c3] at H
   have c3b0 : (a0 == 2) = false := beq_eq_false_iff_ne.mpr c3
   have c3b1 : (a0 != 2) = true := bne_iff_ne.mpr c3
   (first | rw [c3b0] | (simp only [i64_w, i32_w]; rw [c3b0]) | skip)
   by_cases c4 : a0 = 6
   ·rw [if_pos c4] at H
    have c4b0 : (a0 == 6) = true := beq_iff_eq.mpr c4
    have c4b1 : (a0 != 6) = false := bne_eq_false_iff_eq.mpr c4
    clear c4
    have H' := Aside0.mk H
    clear H
    go_wp2
    go_meet
    case rel => exact ⟨_, ((a0 == 6)), (by first | rfl | (simp; done) | (simp [*]; done)), H', ⟨by first | omega | exact Nat.le_refl _⟩, by repeat (first | exact Drawn0.refl _ | apply Drawn0.step)⟩
   ·rw [if_neg c4] at H
    have c4b0 : (a0 == 6) = false := beq_eq_false_iff_ne.mpr c4
    have c4b1 : (a0 != 6) = true := bne_iff_ne.mpr c4
    by_cases c5 : a0 = 11
    ·rw [if_pos c5] at H
     have c5b0 : (a0 == 11) = true := beq_iff_eq.mpr c5
     have c5b1 : (a0 != 11) = false := bne_eq_false_iff_eq.mpr c5
     clear c5
     have H' := Aside0.mk H
     clear H
     go_wp2
     go_meet
     case rel => exact ⟨_, ((a0 == 11)), (by first | rfl | (simp; done) | (simp [*]; done)), H', ⟨by first | omega | exact Nat.le_refl _⟩, by repeat (first | exact Drawn0.refl _ | apply Drawn0.step)⟩
    ·rw [if_neg c5] at H
     have c5b0 : (a0 == 11) = false := beq_eq_false_iff_ne.mpr c5
     have c5b1 : (a0 != 11) = true := bne_iff_ne.mpr c5
     by_cases c6 : a0 = 19
     ·rw [if_pos c6] at H
      have c6b0 : (a0 == 19) = true := beq_iff_eq.mpr c6
      have c6b1 : (a0 != 19) = false := bne_eq_false_iff_eq.mpr c6
      clear c6
      have H' := Aside0.mk H
      clear H
      go_wp2
      go_meet
      case rel => exact ⟨_, ((a0 == 19)), (by first | rfl | (simp; done) | (simp [*]; done)), H', ⟨by first | omega | exact Nat.le_refl _⟩, by repeat (first | exact Drawn0.refl _ | apply Drawn0.step)⟩
     ·rw [if_neg c6] at H
      have c6b0 : (a0 == 19) = false := beq_eq_false_iff_ne.mpr c6
      have c6b1 : (a0 != 19) = true := bne_iff_ne.mpr c6
      have H' := Aside0.mk H
      clear H
      go_wp2
      go_meet
      case rel => exact ⟨_, ((a0 == 27)), (by first | rfl | (simp; done) | (simp [*]; done)), H', ⟨by first | omega | exact Nat.le_refl _⟩, by repeat (first | exact Drawn0.refl _ | apply Drawn0.step)⟩
 case rest =>
  clear HC2
  try clear p2
  try clear c3
  try clear c3b0
  try clear c3b1
  try clear c4
  try clear c4b0
  try clear c4b1
  try clear c5
  try clear c5b0
  try clear c5b1
  try clear c6
  try clear c6b0
  try clear c6b1
  obtain ⟨kq, x5_1, rfl, HA, HJ1, ⟨mc1, rfl⟩⟩ := hcut
  cases kq with
  | zero => exact absurd HA.out (by simp [assessorref03_most.j0])
  | succ kj1 =>
   have H := HA.out
   clear HA
   simp only [assessorref03_most.j0] at H
   by_cases c7 : x5_1 = true
   ·subst c7
    have H1 : (some (0, 4096)) = some (r1, r2) := by rw [if_pos rfl] at H; exact H
    clear H
    have H := H1
    clear H1
    simp only [Option.some.injEq, Prod.mk.injEq] at H
    obtain ⟨rfl, rfl⟩ := H
    go_wp2
    go_ret2
    exact ⟨by first | rfl | (simp; done) | (simp [*]; done), by repeat (first | exact Drawn0.refl _ | apply Drawn0.step)⟩
   ·replace c7 := Bool.eq_false_iff.mpr c7
    subst c7
    have H1 : (if a0 = 3 then (assessorref03_most.j1 kj1 a0 (a0 == 3)) else (assessorref03_most.j1 kj1 a0 (a0 == 26))) = some (r1, r2) := by rw [if_neg (show ¬ (false = true) by decide)] at H; exact H
    clear H
    have H := H1
    clear H1
    have HC8 := Aside0.mk H
    clear H
    go_upto_if 11 with (fail)
    go_cut [11] (fun v11 wc => ∃ (kq : Nat) (x11_7 : Bool), v11 = .bool x11_7 ∧ Aside0 (assessorref03_most.j1 kq a0 x11_7 = some (r1, r2)) ∧ Aside0 (kq ≤ kj1) ∧ Drawn0 w wc)
    case first =>
     have H := HC8.out
     clear HC8
     by_cases c9 : a0 = 3
     ·rw [if_pos c9] at H
      have c9b0 : (a0 == 3) = true := beq_iff_eq.mpr c9
      have c9b1 : (a0 != 3) = false := bne_eq_false_iff_eq.mpr c9
      clear c9
      (first | rw [c9b0] | (simp only [i64_w, i32_w]; rw [c9b0]) | skip)
      have H' := Aside0.mk H
      clear H
      go_wp2
      go_meet
      case rel => exact ⟨_, ((a0 == 3)), (by first | rfl | (simp; done) | (simp [*]; done)), H', ⟨by have := HJ1.out; first | omega | exact Nat.le_refl _⟩, by repeat (first | exact Drawn0.refl _ | apply Drawn0.step)⟩
     ·rw [if_neg c9] at H
      have c9b0 : (a0 == 3) = false := beq_eq_false_iff_ne.mpr c9
      have c9b1 : (a0 != 3) = true := bne_iff_ne.mpr c9
      (first | rw [c9b0] | (simp only [i64_w, i32_w]; rw [c9b0]) | skip)
      have H' := Aside0.mk H
      clear H
      go_wp2
      go_meet
      case rel => exact ⟨_, ((a0 == 26)), (by first | rfl | (simp; done) | (simp [*]; done)), H', ⟨by have := HJ1.out; first | omega | exact Nat.le_refl _⟩, by repeat (first | exact Drawn0.refl _ | apply Drawn0.step)⟩
    case rest =>
     clear HC8
     try clear c1
     try clear p2
     try clear c3
     try clear c3b0
     try clear c3b1
     try clear c4
     try clear c4b0
     try clear c4b1
     try clear c5
     try clear c5b0
     try clear c5b1
     try clear c6
     try clear c6b0
     try clear c6b1
     try clear c7
     try clear c9
     try clear c9b0
     try clear c9b1
     try clear p2
     obtain ⟨kq, x11_7, rfl, HA, HJ7, ⟨mc7, rfl⟩⟩ := hcut
     cases kq with
     | zero => exact absurd HA.out (by simp [assessorref03_most.j1])
     | succ kj7 =>
      have H := HA.out
      clear HA
      simp only [assessorref03_most.j1] at H
      by_cases c10 : x11_7 = true
      ·subst c10
       have H1 : (some (1, 4096)) = some (r1, r2) := by rw [if_pos rfl] at H; exact H
       clear H
       have H := H1
       clear H1
       simp only [Option.some.injEq, Prod.mk.injEq] at H
       obtain ⟨rfl, rfl⟩ := H
       go_wp2
       go_ret2
       exact ⟨by first | rfl | (simp; done) | (simp [*]; done), by repeat (first | exact Drawn0.refl _ | apply Drawn0.step)⟩
      ·replace c10 := Bool.eq_false_iff.mpr c10
       subst c10
       have H1 : (if a0 = 5 then (assessorref03_most.j2 kj7 a0 (a0 == 5)) else (if a0 = 14 then (assessorref03_most.j2 kj7 a0 (a0 == 14)) else (assessorref03_most.j2 kj7 a0 (a0 == 16)))) = some (r1, r2) := by rw [if_neg (show ¬ (false = true) by decide)] at H; exact H
       clear H
       have H := H1
       clear H1
       have HC11 := Aside0.mk H
       clear H
       go_upto_if 14 with (fail)
       go_cut [14] (fun v14 wc => ∃ (kq : Nat) (x14_10 : Bool), v14 = .bool x14_10 ∧ Aside0 (assessorref03_most.j2 kq a0 x14_10 = some (r1, r2)) ∧ Aside0 (kq ≤ kj7) ∧ Drawn0 w wc)
       case first =>
        have H := HC11.out
        clear HC11
        by_cases c12 : a0 = 5
        ·rw [if_pos c12] at H
         have c12b0 : (a0 == 5) = true := beq_iff_eq.mpr c12
         have c12b1 : (a0 != 5) = false := bne_eq_false_iff_eq.mpr c12
         clear c12
         (first | rw [c12b0] | (simp only [i64_w, i32_w]; rw [c12b0]) | skip)
         have H' := Aside0.mk H
         clear H
         go_wp2
         go_meet
         case rel => exact ⟨_, ((a0 == 5)), (by first | rfl | (simp; done) | (simp [*]; done)), H', ⟨by have := HJ1.out; have := HJ7.out; first | omega | exact Nat.le_refl _⟩, by repeat (first | exact Drawn0.refl _ | apply Drawn0.step)⟩
        ·rw [if_neg c12] at H
         have c12b0 : (a0 == 5) = false := beq_eq_false_iff_ne.mpr c12
         have c12b1 : (a0 != 5) = true := bne_iff_ne.mpr c12
         (first | rw [c12b0] | (simp only [i64_w, i32_w]; rw [c12b0]) | skip)
         by_cases c13 : a0 = 14
         ·rw [if_pos c13] at H
          have c13b0 : (a0 == 14) = true := beq_iff_eq.mpr c13
          have c13b1 : (a0 != 14) = false := bne_eq_false_iff_eq.mpr c13
          clear c13
          have H' := Aside0.mk H
          clear H
          go_wp2
          go_meet
          case rel => exact ⟨_, ((a0 == 14)), (by first | rfl | (simp; done) | (simp [*]; done)), H', ⟨by have := HJ1.out; have := HJ7.out; first | omega | exact Nat.le_refl _⟩, by repeat (first | exact Drawn0.refl _ | apply Drawn0.step)⟩
         ·rw [if_neg c13] at H
          have c13b0 : (a0 == 14) = false := beq_eq_false_iff_ne.mpr c13
          have c13b1 : (a0 != 14) = true := bne_iff_ne.mpr c13
          have H' := Aside0.mk H
          clear H
          go_wp2
          go_meet
          case rel => exact ⟨_, ((a0 == 16)), (by first | rfl | (simp; done) | (simp [*]; done)), H', ⟨by have := HJ1.out; have := HJ7.out; first | omega | exact Nat.le_refl _⟩, by repeat (first | exact Drawn0.refl _ | apply Drawn0.step)⟩
       case rest =>
        clear HC11
        try clear c1
        try clear p2
        try clear c3
        try clear c3b0
        try clear c3b1
        try clear c4
        try clear c4b0
        try clear c4b1
        try clear c5
        try clear c5b0
        try clear c5b1
        try clear c6
        try clear c6b0
        try clear c6b1
        try clear c7
        try clear c9
        try clear c9b0
        try clear c9b1
        try clear c10
        try clear c12
        try clear c12b0
        try clear c12b1
        try clear c13
        try clear c13b0
        try clear c13b1
        try clear p2
        obtain ⟨kq, x14_10, rfl, HA, HJ10, ⟨mc10, rfl⟩⟩ := hcut
        cases kq with
        | zero => exact absurd HA.out (by simp [assessorref03_most.j2])
        | succ kj10 =>
         have H := HA.out
         clear HA
         simp only [assessorref03_most.j2] at H
         by_cases c14 : x14_10 = true
         ·subst c14
          have H1 : (some (3, 3)) = some (r1, r2) := by rw [if_pos rfl] at H; exact H
          clear H
          have H := H1
          clear H1
          simp only [Option.some.injEq, Prod.mk.injEq] at H
          obtain ⟨rfl, rfl⟩ := H
          go_wp2
          go_ret2
          exact ⟨by first | rfl | (simp; done) | (simp [*]; done), by repeat (first | exact Drawn0.refl _ | apply Drawn0.step)⟩
         ·replace c14 := Bool.eq_false_iff.mpr c14
          subst c14
          have H1 : (if a0 = 12 then (assessorref03_most.j3 kj10 a0 (a0 == 12)) else (if a0 = 13 then (assessorref03_most.j3 kj10 a0 (a0 == 13)) else (if a0 = 15 then (assessorref03_most.j3 kj10 a0 (a0 == 15)) else (if a0 = 21 then (assessorref03_most.j3 kj10 a0 (a0 == 21)) else (assessorref03_most.j3 kj10 a0 (a0 == 29)))))) = some (r1, r2) := by rw [if_neg (show ¬ (false = true) by decide)] at H; exact H
          clear H
          have H := H1
          clear H1
          have HC15 := Aside0.mk H
          clear H
          go_upto_if 18 with (fail)
          go_cut [18] (fun v18 wc => ∃ (kq : Nat) (x18_14 : Bool), v18 = .bool x18_14 ∧ Aside0 (assessorref03_most.j3 kq a0 x18_14 = some (r1, r2)) ∧ Aside0 (kq ≤ kj10) ∧ Drawn0 w wc)
          case first =>
           have H := HC15.out
           clear HC15
           by_cases c16 : a0 = 12
           ·rw [if_pos c16] at H
            have c16b0 : (a0 == 12) = true := beq_iff_eq.mpr c16
            have c16b1 : (a0 != 12) = false := bne_eq_false_iff_eq.mpr c16
            clear c16
            (first | rw [c16b0] | (simp only [i64_w, i32_w]; rw [c16b0]) | skip)
            have H' := Aside0.mk H
            clear H
            go_wp2
            go_meet
            case rel => exact ⟨_, ((a0 == 12)), (by first | rfl | (simp; done) | (simp [*]; done)), H', ⟨by have := HJ1.out; have := HJ7.out; have := HJ10.out; first | omega | exact Nat.le_refl _⟩, by repeat (first | exact Drawn0.refl _ | apply Drawn0.step)⟩
           ·rw [if_neg c16] at H
            have c16b0 : (a0 == 12) = false := beq_eq_false_iff_ne.mpr c16
            have c16b1 : (a0 != 12) = true := bne_iff_ne.mpr c16
            (first | rw [c16b0] | (simp only [i64_w, i32_w]; rw [c16b0]) | skip)
            by_cases c17 : a0 = 13
            ·rw [if_pos c17] at H
             have c17b0 : (a0 == 13) = true := beq_iff_eq.mpr c17
             have c17b1 : (a0 != 13) = false := bne_eq_false_iff_eq.mpr c17
             clear c17
             have H' := Aside0.mk H
             clear H
             go_wp2
             go_meet
             case rel => exact ⟨_, ((a0 == 13)), (by first | rfl | (simp; done) | (simp [*]; done)), H', ⟨by have := HJ1.out; have := HJ7.out; have := HJ10.out; first | omega | exact Nat.le_refl _⟩, by repeat (first | exact Drawn0.refl _ | apply Drawn0.step)⟩
            ·rw [if_neg c17] at H
             have c17b0 : (a0 == 13) = false := beq_eq_false_iff_ne.mpr c17
             have c17b1 : (a0 != 13) = true := bne_iff_ne.mpr c17
             by_cases c18 : a0 = 15
             ·rw [if_pos c18] at H
              have c18b0 : (a0 == 15) = true := beq_iff_eq.mpr c18
              have c18b1 : (a0 != 15) = false := bne_eq_false_iff_eq.mpr c18
              clear c18
              have H' := Aside0.mk H
              clear H
              go_wp2
              go_meet
              case rel => exact ⟨_, ((a0 == 15)), (by first | rfl | (simp; done) | (simp [*]; done)), H', ⟨by have := HJ1.out; have := HJ7.out; have := HJ10.out; first | omega | exact Nat.le_refl _⟩, by repeat (first | exact Drawn0.refl _ | apply Drawn0.step)⟩
             ·rw [if_neg c18] at H
              have c18b0 : (a0 == 15) = false := beq_eq_false_iff_ne.mpr c18
              have c18b1 : (a0 != 15) = true := bne_iff_ne.mpr c18
              by_cases c19 : a0 = 21
              ·rw [if_pos c19] at H
               have c19b0 : (a0 == 21) = true := beq_iff_eq.mpr c19
               have c19b1 : (a0 != 21) = false := bne_eq_false_iff_eq.mpr c19
               clear c19
               have H' := Aside0.mk H
               clear H
               go_wp2
               go_meet
               case rel => exact ⟨_, ((a0 == 21)), (by first | rfl | (simp; done) | (simp [*]; done)), H', ⟨by have := HJ1.out; have := HJ7.out; have := HJ10.out; first | omega | exact Nat.le_refl _⟩, by repeat (first | exact Drawn0.refl _ | apply Drawn0.step)⟩
              ·rw [if_neg c19] at H
               have c19b0 : (a0 == 21) = false := beq_eq_false_iff_ne.mpr c19
               have c19b1 : (a0 != 21) = true := bne_iff_ne.mpr c19
               have H' := Aside0.mk H
               clear H
               go_wp2
               go_meet
               case rel => exact ⟨_, ((a0 == 29)), (by first | rfl | (simp; done) | (simp [*]; done)), H', ⟨by have := HJ1.out; have := HJ7.out; have := HJ10.out; first | omega | exact Nat.le_refl _⟩, by repeat (first | exact Drawn0.refl _ | apply Drawn0.step)⟩
          case rest =>
           clear HC15
           try clear c1
           try clear p2
           try clear c3
           try clear c3b0
           try clear c3b1
           try clear c4
           try clear c4b0
           try clear c4b1
           try clear c5
           try clear c5b0
           try clear c5b1
           try clear c6
           try clear c6b0
           try clear c6b1
           try clear c7
           try clear c9
           try clear c9b0
           try clear c9b1
           try clear c10
           try clear c12
           try clear c12b0
           try clear c12b1
           try clear c13
           try clear c13b0
           try clear c13b1
           try clear c14
           try clear c16
           try clear c16b0
           try clear c16b1
           try clear c17
           try clear c17b0
           try clear c17b1
           try clear c18
           try clear c18b0
           try clear c18b1
           try clear c19
           try clear c19b0
           try clear c19b1
           try clear p2
           obtain ⟨kq, x18_14, rfl, HA, HJ14, ⟨mc14, rfl⟩⟩ := hcut
           cases kq with
           | zero => exact absurd HA.out (by simp [assessorref03_most.j3])
           | succ kj14 =>
            have H := HA.out
            clear HA
            simp only [assessorref03_most.j3] at H
            by_cases c20 : x18_14 = true
            ·subst c20
             have H1 : (some (2, 2)) = some (r1, r2) := by rw [if_pos rfl] at H; exact H
             clear H
             have H := H1
             clear H1
             simp only [Option.some.injEq, Prod.mk.injEq] at H
             obtain ⟨rfl, rfl⟩ := H
             go_wp2
             go_ret2
             exact ⟨by first | rfl | (simp; done) | (simp [*]; done), by repeat (first | exact Drawn0.refl _ | apply Drawn0.step)⟩
            ·replace c20 := Bool.eq_false_iff.mpr c20
             subst c20
             have H1 : (if a0 = 4 then (some (1, 1)) else (if a0 = 7 then (some (1, 1)) else (if a0 = 8 then (some (1, 1)) else (if a0 = 17 then (some (1, 1)) else (if a0 = 18 then (some (1, 1)) else (if a0 = 22 then (some (1, 1)) else (if a0 = 23 then (some (1, 1)) else (if a0 = 28 then (some (1, 1)) else (some (0, 0)))))))))) = some (r1, r2) := by rw [if_neg (show ¬ (false = true) by decide)] at H; exact H
             clear H
             have H := H1
             clear H1
             by_cases c21 : a0 = 4
             ·rw [if_pos c21] at H
              have c21b0 : (a0 == 4) = true := beq_iff_eq.mpr c21
              have c21b1 : (a0 != 4) = false := bne_eq_false_iff_eq.mpr c21
              clear c21
              simp only [Option.some.injEq, Prod.mk.injEq] at H
              obtain ⟨rfl, rfl⟩ := H
              go_wp2
              go_ret2
              exact ⟨by first | rfl | (simp; done) | (simp [*]; done), by repeat (first | exact Drawn0.refl _ | apply Drawn0.step)⟩
             ·rw [if_neg c21] at H
              have c21b0 : (a0 == 4) = false := beq_eq_false_iff_ne.mpr c21
              have c21b1 : (a0 != 4) = true := bne_iff_ne.mpr c21
              by_cases c22 : a0 = 7
              ·rw [if_pos c22] at H
               have c22b0 : (a0 == 7) = true := beq_iff_eq.mpr c22
               have c22b1 : (a0 != 7) = false := bne_eq_false_iff_eq.mpr c22
               clear c22
               simp only [Option.some.injEq, Prod.mk.injEq] at H
               obtain ⟨rfl, rfl⟩ := H
               go_wp2
               go_ret2
               exact ⟨by first | rfl | (simp; done) | (simp [*]; done), by repeat (first | exact Drawn0.refl _ | apply Drawn0.step)⟩
              ·rw [if_neg c22] at H
               have c22b0 : (a0 == 7) = false := beq_eq_false_iff_ne.mpr c22
               have c22b1 : (a0 != 7) = true := bne_iff_ne.mpr c22
               by_cases c23 : a0 = 8
               ·rw [if_pos c23] at H
                have c23b0 : (a0 == 8) = true := beq_iff_eq.mpr c23
                have c23b1 : (a0 != 8) = false := bne_eq_false_iff_eq.mpr c23
                clear c23
                simp only [Option.some.injEq, Prod.mk.injEq] at H
                obtain ⟨rfl, rfl⟩ := H
                go_wp2
                go_ret2
                exact ⟨by first | rfl | (simp; done) | (simp [*]; done), by repeat (first | exact Drawn0.refl _ | apply Drawn0.step)⟩
               ·rw [if_neg c23] at H
                have c23b0 : (a0 == 8) = false := beq_eq_false_iff_ne.mpr c23
                have c23b1 : (a0 != 8) = true := bne_iff_ne.mpr c23
                by_cases c24 : a0 = 17
                ·rw [if_pos c24] at H
                 have c24b0 : (a0 == 17) = true := beq_iff_eq.mpr c24
                 have c24b1 : (a0 != 17) = false := bne_eq_false_iff_eq.mpr c24
                 clear c24
                 simp only [Option.some.injEq, Prod.mk.injEq] at H
                 obtain ⟨rfl, rfl⟩ := H
                 go_wp2
                 go_ret2
                 exact ⟨by first | rfl | (simp; done) | (simp [*]; done), by repeat (first | exact Drawn0.refl _ | apply Drawn0.step)⟩
                ·rw [if_neg c24] at H
                 have c24b0 : (a0 == 17) = false := beq_eq_false_iff_ne.mpr c24
                 have c24b1 : (a0 != 17) = true := bne_iff_ne.mpr c24
                 by_cases c25 : a0 = 18
                 ·rw [if_pos c25] at H
                  have c25b0 : (a0 == 18) = true := beq_iff_eq.mpr c25
                  have c25b1 : (a0 != 18) = false := bne_eq_false_iff_eq.mpr c25
                  clear c25
                  simp only [Option.some.injEq, Prod.mk.injEq] at H
                  obtain ⟨rfl, rfl⟩ := H
                  go_wp2
                  go_ret2
                  exact ⟨by first | rfl | (simp; done) | (simp [*]; done), by repeat (first | exact Drawn0.refl _ | apply Drawn0.step)⟩
                 ·rw [if_neg c25] at H
                  have c25b0 : (a0 == 18) = false := beq_eq_false_iff_ne.mpr c25
                  have c25b1 : (a0 != 18) = true := bne_iff_ne.mpr c25
                  by_cases c26 : a0 = 22
                  ·rw [if_pos c26] at H
                   have c26b0 : (a0 == 22) = true := beq_iff_eq.mpr c26
                   have c26b1 : (a0 != 22) = false := bne_eq_false_iff_eq.mpr c26
                   clear c26
                   simp only [Option.some.injEq, Prod.mk.injEq] at H
                   obtain ⟨rfl, rfl⟩ := H
                   go_wp2
                   go_ret2
                   exact ⟨by first | rfl | (simp; done) | (simp [*]; done), by repeat (first | exact Drawn0.refl _ | apply Drawn0.step)⟩
                  ·rw [if_neg c26] at H
                   have c26b0 : (a0 == 22) = false := beq_eq_false_iff_ne.mpr c26
                   have c26b1 : (a0 != 22) = true := bne_iff_ne.mpr c26
                   by_cases c27 : a0 = 23
                   ·rw [if_pos c27] at H
                    have c27b0 : (a0 == 23) = true := beq_iff_eq.mpr c27
                    have c27b1 : (a0 != 23) = false := bne_eq_false_iff_eq.mpr c27
                    clear c27
                    simp only [Option.some.injEq, Prod.mk.injEq] at H
                    obtain ⟨rfl, rfl⟩ := H
                    go_wp2
                    go_ret2
                    exact ⟨by first | rfl | (simp; done) | (simp [*]; done), by repeat (first | exact Drawn0.refl _ | apply Drawn0.step)⟩
                   ·rw [if_neg c27] at H
                    have c27b0 : (a0 == 23) = false := beq_eq_false_iff_ne.mpr c27
                    have c27b1 : (a0 != 23) = true := bne_iff_ne.mpr c27
                    by_cases c28 : a0 = 28
                    ·rw [if_pos c28] at H
                     have c28b0 : (a0 == 28) = true := beq_iff_eq.mpr c28
                     have c28b1 : (a0 != 28) = false := bne_eq_false_iff_eq.mpr c28
                     clear c28
                     simp only [Option.some.injEq, Prod.mk.injEq] at H
                     obtain ⟨rfl, rfl⟩ := H
                     go_wp2
                     go_ret2
                     exact ⟨by first | rfl | (simp; done) | (simp [*]; done), by repeat (first | exact Drawn0.refl _ | apply Drawn0.step)⟩
                    ·rw [if_neg c28] at H
                     have c28b0 : (a0 == 28) = false := beq_eq_false_iff_ne.mpr c28
                     have c28b1 : (a0 != 28) = true := bne_iff_ne.mpr c28
                     simp only [Option.some.injEq, Prod.mk.injEq] at H
                     obtain ⟨rfl, rfl⟩ := H
                     go_wp2
                     go_ret2
                     exact ⟨by first | rfl | (simp; done) | (simp [*]; done), by repeat (first | exact Drawn0.refl _ | apply Drawn0.step)⟩

/-! ### assessorref03_IsExpression: function 45 -/
def assessorref03_IsExpression.f (a0 : Int) : Option (Bool) := if a0 ≥ 20 then (some (decide (a0 ≤ 29))) else (some false)
set_option maxHeartbeats 8000000 in
set_option maxRecDepth 100000 in
theorem assessorref03_IsExpression.calls (a0 : Int) (r : Bool) (w : World) (h : assessorref03_IsExpression.f a0 = some r) :
  Calls Try.prog 45 #[.int .i64 a0] w fun e w' => e = .returned (.bool r) ∧ Drawn0 w w' := by
 have H : (if a0 ≥ 20 then (some (decide (a0 ≤ 29))) else (some false)) = some r := h
 clear h
 by_cases c2 : a0 ≥ 20
 ·rw [if_pos c2] at H
  have c2b0 : decide (20 ≤ a0) = true := decide_eq_true c2
  clear c2
  obtain rfl := Option.some.inj H
  go_enter Try.func45, Try.ntmps45
  go_wp2
  go_ret
  exact ⟨by first | rfl | (simp; done) | (simp [*]; done), by repeat (first | exact Drawn0.refl _ | apply Drawn0.step)⟩
 ·rw [if_neg c2] at H
  have c2b0 : decide (20 ≤ a0) = false := decide_eq_false c2
  clear c2
  obtain rfl := Option.some.inj H
  go_enter Try.func45, Try.ntmps45
  go_wp2
  go_ret
  exact ⟨by first | rfl | (simp; done) | (simp [*]; done), by repeat (first | exact Drawn0.refl _ | apply Drawn0.step)⟩

/-! ### assessorref03_IsStatement: function 47 -/
def assessorref03_IsStatement.f (a0 : Int) : Option (Bool) := if a0 ≥ 12 then (some (decide (a0 ≤ 19))) else (some false)
set_option maxHeartbeats 8000000 in
set_option maxRecDepth 100000 in
theorem assessorref03_IsStatement.calls (a0 : Int) (r : Bool) (w : World) (h : assessorref03_IsStatement.f a0 = some r) :
  Calls Try.prog 47 #[.int .i64 a0] w fun e w' => e = .returned (.bool r) ∧ Drawn0 w w' := by
 have H : (if a0 ≥ 12 then (some (decide (a0 ≤ 19))) else (some false)) = some r := h
 clear h
 by_cases c2 : a0 ≥ 12
 ·rw [if_pos c2] at H
  have c2b0 : decide (12 ≤ a0) = true := decide_eq_true c2
  clear c2
  obtain rfl := Option.some.inj H
  go_enter Try.func47, Try.ntmps47
  go_wp2
  go_ret
  exact ⟨by first | rfl | (simp; done) | (simp [*]; done), by repeat (first | exact Drawn0.refl _ | apply Drawn0.step)⟩
 ·rw [if_neg c2] at H
  have c2b0 : decide (12 ≤ a0) = false := decide_eq_false c2
  clear c2
  obtain rfl := Option.some.inj H
  go_enter Try.func47, Try.ntmps47
  go_wp2
  go_ret
  exact ⟨by first | rfl | (simp; done) | (simp [*]; done), by repeat (first | exact Drawn0.refl _ | apply Drawn0.step)⟩

/-! ### assessorref03_Type: function 76 -/
def assessorref03_Type.f (a0 : Int) : Option (Bool) := if a0 = 9 then (some true) else (some (a0 == 10))
set_option maxHeartbeats 8000000 in
set_option maxRecDepth 100000 in
theorem assessorref03_Type.calls (a0 : Int) (r : Bool) (w : World) (h : assessorref03_Type.f a0 = some r) :
  Calls Try.prog 76 #[.int .i64 a0] w fun e w' => e = .returned (.bool r) ∧ Drawn0 w w' := by
 have H : (if a0 = 9 then (some true) else (some (a0 == 10))) = some r := h
 clear h
 by_cases c2 : a0 = 9
 ·rw [if_pos c2] at H
  have c2b0 : (a0 == 9) = true := beq_iff_eq.mpr c2
  have c2b1 : (a0 != 9) = false := bne_eq_false_iff_eq.mpr c2
  clear c2
  obtain rfl := Option.some.inj H
  go_enter Try.func76, Try.ntmps76
  go_wp2
  go_ret
  exact ⟨by first | rfl | (simp; done) | (simp [*]; done), by repeat (first | exact Drawn0.refl _ | apply Drawn0.step)⟩
 ·rw [if_neg c2] at H
  have c2b0 : (a0 == 9) = false := beq_eq_false_iff_ne.mpr c2
  have c2b1 : (a0 != 9) = true := bne_iff_ne.mpr c2
  obtain rfl := Option.some.inj H
  go_enter Try.func76, Try.ntmps76
  go_wp2
  go_ret
  exact ⟨by first | rfl | (simp; done) | (simp [*]; done), by repeat (first | exact Drawn0.refl _ | apply Drawn0.step)⟩

/-! ### assessorref03_Place: function 77 -/
def assessorref03_Place.f (a0 : Int) : Option (Bool) := if a0 = 20 then (some true) else (if a0 = 21 then (some true) else (some (a0 == 22)))
set_option maxHeartbeats 8000000 in
set_option maxRecDepth 100000 in
theorem assessorref03_Place.calls (a0 : Int) (r : Bool) (w : World) (h : assessorref03_Place.f a0 = some r) :
  Calls Try.prog 77 #[.int .i64 a0] w fun e w' => e = .returned (.bool r) ∧ Drawn0 w w' := by
 have H : (if a0 = 20 then (some true) else (if a0 = 21 then (some true) else (some (a0 == 22)))) = some r := h
 clear h
 by_cases c2 : a0 = 20
 ·rw [if_pos c2] at H
  have c2b0 : (a0 == 20) = true := beq_iff_eq.mpr c2
  have c2b1 : (a0 != 20) = false := bne_eq_false_iff_eq.mpr c2
  clear c2
  obtain rfl := Option.some.inj H
  go_enter Try.func77, Try.ntmps77
  go_wp2
  go_ret
  exact ⟨by first | rfl | (simp; done) | (simp [*]; done), by repeat (first | exact Drawn0.refl _ | apply Drawn0.step)⟩
 ·rw [if_neg c2] at H
  have c2b0 : (a0 == 20) = false := beq_eq_false_iff_ne.mpr c2
  have c2b1 : (a0 != 20) = true := bne_iff_ne.mpr c2
  by_cases c3 : a0 = 21
  ·rw [if_pos c3] at H
   have c3b0 : (a0 == 21) = true := beq_iff_eq.mpr c3
   have c3b1 : (a0 != 21) = false := bne_eq_false_iff_eq.mpr c3
   clear c3
   obtain rfl := Option.some.inj H
   go_enter Try.func77, Try.ntmps77
   go_wp2
   go_ret
   exact ⟨by first | rfl | (simp; done) | (simp [*]; done), by repeat (first | exact Drawn0.refl _ | apply Drawn0.step)⟩
  ·rw [if_neg c3] at H
   have c3b0 : (a0 == 21) = false := beq_eq_false_iff_ne.mpr c3
   have c3b1 : (a0 != 21) = true := bne_iff_ne.mpr c3
   obtain rfl := Option.some.inj H
   go_enter Try.func77, Try.ntmps77
   go_wp2
   go_ret
   exact ⟨by first | rfl | (simp; done) | (simp [*]; done), by repeat (first | exact Drawn0.refl _ | apply Drawn0.step)⟩

end Go.Proofs.Ytbheobngeocdfaa.PAll
