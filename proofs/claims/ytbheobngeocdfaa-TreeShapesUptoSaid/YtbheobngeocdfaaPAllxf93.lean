/- What the machine's calls come to, function by function: printed by a program of this session after the kit's print; Lean checks it. SLIM -/
import Derived.Test.YtbheobngeocdfaaPAllx0
import Derived.Test.YtbheobngeocdfaaPAllxf91
namespace Go.Proofs.Ytbheobngeocdfaa.PAll
open Go.RowKit Go.Proofs.YtbheobngeocdfaaW.PrintWords Go.Proofs.YtbheobngeocdfaaW.PrintLast Go.Proofs.YtbheobngeocdfaaW.PrintMore
attribute [local go_sem] max2_int min2_int max_two min_two max_three min_three max_four min_four   -- for this text's walks alone
set_option linter.unusedVariables false
set_option linter.unusedSimpArgs false

/-! ### assessorref02_token: function 93 -/
mutual
def assessorref02_token.l0 : Nat → ByteArray → Int → Int → Option (Int × Int)
 | 0, _, _, _ => none
 | k + 1, x0, x1, x6 => if x6 < (x0.size : Int) then (if 0 ≤ x6 then ((assessorref02_letter.f (bt x0 x6)).bind fun t207 => (if t207 = true then (assessorref02_token.l0 k x0 x1 (wrap64 (x6 + 1))) else ((assessorref02_digit.f (bt x0 x6)).bind fun t208 => (if t208 = true then (assessorref02_token.l0 k x0 x1 (wrap64 (x6 + 1))) else (if (bt x0 x6) = 95 then (assessorref02_token.l0 k x0 x1 (wrap64 (x6 + 1))) else (if 0 ≤ x1 then (if x1 ≤ x6 then (if x6 ≤ (x0.size : Int) then ((assessorref02_Keyword.f k (x0.extract (x1 : Int).toNat (x6 : Int).toNat)).bind fun t209 => (if t209 = true then (some (1, x6)) else (some (0, x6)))) else (none)) else (none)) else (none))))))) else (none)) else (if 0 ≤ x1 then (if x1 ≤ x6 then (if x6 ≤ (x0.size : Int) then ((assessorref02_Keyword.f k (x0.extract (x1 : Int).toNat (x6 : Int).toNat)).bind fun t210 => (if t210 = true then (some (1, x6)) else (some (0, x6)))) else (none)) else (none)) else (none))
def assessorref02_token.l1 : Nat → ByteArray → Int → Option (Int × Int)
 | 0, _, _ => none
 | k + 1, x0, x6 => if x6 < (x0.size : Int) then (if 0 ≤ x6 then ((assessorref02_digit.f (bt x0 x6)).bind fun t212 => (if t212 = true then (assessorref02_token.l1 k x0 (wrap64 (x6 + 1))) else (some (2, x6)))) else (none)) else (some (2, x6))
def assessorref02_token.l2 : Nat → ByteArray → Int → Option (Int × Int)
 | 0, _, _ => none
 | k + 1, x0, x6 => if x6 < (x0.size : Int) then (if 0 ≤ x6 then ((assessorref02_blank.f (bt x0 x6)).bind fun t215 => (if t215 = true then (some (4, x6)) else (if (bt x0 x6) = 35 then (some (4, x6)) else ((assessorref02_begins.f k x0 x6).bind fun t216 => (if t216 = true then (some (4, x6)) else (assessorref02_token.l2 k x0 (wrap64 (x6 + 1)))))))) else (none)) else (some (4, x6))
end
def assessorref02_token.f (k : Nat) (a0 : ByteArray) (a1 : Int) : Option (Int × Int) := if 0 ≤ a1 then (if a1 < (a0.size : Int) then ((assessorref02_letter.f (bt a0 a1)).bind fun t206 => (if t206 = true then (assessorref02_token.l0 k a0 a1 a1) else ((assessorref02_digit.f (bt a0 a1)).bind fun t211 => (if t211 = true then (assessorref02_token.l1 k a0 a1) else ((assessorref02_symbol.f k a0 a1).bind fun t213 => (if t213 > 0 then ((assessorref02_symbol.f k a0 a1).bind fun t214 => (some (3, wrap64 (a1 + t214)))) else (assessorref02_token.l2 k a0 a1))))))) else (none)) else (none)
theorem assessorref02_token.mono_l : ∀ k, (∀ y0 y1 y2, LeO (assessorref02_token.l0 k y0 y1 y2) (assessorref02_token.l0 (k + 1) y0 y1 y2)) ∧ (∀ y0 y1, LeO (assessorref02_token.l1 k y0 y1) (assessorref02_token.l1 (k + 1) y0 y1)) ∧ (∀ y0 y1, LeO (assessorref02_token.l2 k y0 y1) (assessorref02_token.l2 (k + 1) y0 y1))
 | 0 => ⟨fun _ _ _ r h => by simp [assessorref02_token.l0] at h, fun _ _ r h => by simp [assessorref02_token.l1] at h, fun _ _ r h => by simp [assessorref02_token.l2] at h⟩
 | k + 1 => by
  obtain ⟨ih0, ih1, ih2⟩ := assessorref02_token.mono_l k
  refine ⟨?_, ?_, ?_⟩
  ·intro y0 y1 y2
   unfold assessorref02_token.l0
   repeat' first
   | (with_reducible exact ih0 _ _ _)
   | (with_reducible exact ih1 _ _)
   | (with_reducible exact ih2 _ _)
   | (with_reducible exact assessorref02_Keyword.mono _ _)
   | (with_reducible exact assessorref02_begins.mono _ _ _)
   | (with_reducible exact assessorref02_symbol.mono _ _ _)
   | (with_reducible exact LeO.refl _)
   | (with_reducible exact LeO.none _)
   | (with_reducible refine LeO.ite ?_ ?_)
   | (with_reducible refine LeO.bind ?_ (fun _ => ?_))
   | exact ih0 _ _ _
   | exact ih1 _ _
   | exact ih2 _ _
   | exact assessorref02_Keyword.mono _ _
   | exact assessorref02_begins.mono _ _ _
   | exact assessorref02_symbol.mono _ _ _
   | exact LeO.none _
   | refine LeO.ite ?_ ?_
   | refine LeO.bind ?_ (fun _ => ?_)
  ·intro y0 y1
   unfold assessorref02_token.l1
   repeat' first
   | (with_reducible exact ih0 _ _ _)
   | (with_reducible exact ih1 _ _)
   | (with_reducible exact ih2 _ _)
   | (with_reducible exact assessorref02_Keyword.mono _ _)
   | (with_reducible exact assessorref02_begins.mono _ _ _)
   | (with_reducible exact assessorref02_symbol.mono _ _ _)
   | (with_reducible exact LeO.refl _)
   | (with_reducible exact LeO.none _)
   | (with_reducible refine LeO.ite ?_ ?_)
   | (with_reducible refine LeO.bind ?_ (fun _ => ?_))
   | exact ih0 _ _ _
   | exact ih1 _ _
   | exact ih2 _ _
   | exact assessorref02_Keyword.mono _ _
   | exact assessorref02_begins.mono _ _ _
   | exact assessorref02_symbol.mono _ _ _
   | exact LeO.none _
   | refine LeO.ite ?_ ?_
   | refine LeO.bind ?_ (fun _ => ?_)
  ·intro y0 y1
   unfold assessorref02_token.l2
   repeat' first
   | (with_reducible exact ih0 _ _ _)
   | (with_reducible exact ih1 _ _)
   | (with_reducible exact ih2 _ _)
   | (with_reducible exact assessorref02_Keyword.mono _ _)
   | (with_reducible exact assessorref02_begins.mono _ _ _)
   | (with_reducible exact assessorref02_symbol.mono _ _ _)
   | (with_reducible exact LeO.refl _)
   | (with_reducible exact LeO.none _)
   | (with_reducible refine LeO.ite ?_ ?_)
   | (with_reducible refine LeO.bind ?_ (fun _ => ?_))
   | exact ih0 _ _ _
   | exact ih1 _ _
   | exact ih2 _ _
   | exact assessorref02_Keyword.mono _ _
   | exact assessorref02_begins.mono _ _ _
   | exact assessorref02_symbol.mono _ _ _
   | exact LeO.none _
   | refine LeO.ite ?_ ?_
   | refine LeO.bind ?_ (fun _ => ?_)
theorem assessorref02_token.mono : ∀ a0 a1 k, LeO (assessorref02_token.f k a0 a1) (assessorref02_token.f (k + 1) a0 a1) := by
 intro a0 a1 k
 obtain ⟨ih0, ih1, ih2⟩ := assessorref02_token.mono_l k
 unfold assessorref02_token.f
 repeat' first
   | (with_reducible exact ih0 _ _ _)
   | (with_reducible exact ih1 _ _)
   | (with_reducible exact ih2 _ _)
   | (with_reducible exact assessorref02_Keyword.mono _ _)
   | (with_reducible exact assessorref02_begins.mono _ _ _)
   | (with_reducible exact assessorref02_symbol.mono _ _ _)
   | (with_reducible exact LeO.refl _)
   | (with_reducible exact LeO.none _)
   | (with_reducible refine LeO.ite ?_ ?_)
   | (with_reducible refine LeO.bind ?_ (fun _ => ?_))
   | exact ih0 _ _ _
   | exact ih1 _ _
   | exact ih2 _ _
   | exact assessorref02_Keyword.mono _ _
   | exact assessorref02_begins.mono _ _ _
   | exact assessorref02_symbol.mono _ _ _
   | exact LeO.none _
   | refine LeO.ite ?_ ?_
   | refine LeO.bind ?_ (fun _ => ?_)
set_option maxHeartbeats 8000000 in
set_option maxRecDepth 100000 in
theorem assessorref02_token.calls (k : Nat) (a0 : ByteArray) (a1 : Int) (r1 : Int) (r2 : Int) (w : World) (h : assessorref02_token.f k a0 a1 = some (r1, r2)) :
  Calls Try.prog 93 #[.string a0, .int .i64 a1] w fun e w' => e = .returned (.tuple #[.int .i64 r1, .int .i64 r2]) ∧ Below w.heap.size w w' := by
 have HB := Aside0.mk (Below.refl w.heap.size w)
 have H : (if 0 ≤ a1 then (if a1 < (a0.size : Int) then ((assessorref02_letter.f (bt a0 a1)).bind fun t206 => (if t206 = true then (assessorref02_token.l0 k a0 a1 a1) else ((assessorref02_digit.f (bt a0 a1)).bind fun t211 => (if t211 = true then (assessorref02_token.l1 k a0 a1) else ((assessorref02_symbol.f k a0 a1).bind fun t213 => (if t213 > 0 then ((assessorref02_symbol.f k a0 a1).bind fun t214 => (some (3, wrap64 (a1 + t214)))) else (assessorref02_token.l2 k a0 a1))))))) else (none)) else (none)) = some (r1, r2) := h
 clear h
 by_cases c3 : 0 ≤ a1
 ·rw [if_pos c3] at H
  have c3b0 : decide (0 ≤ a1) = true := decide_eq_true c3
  clear c3
  by_cases c4 : a1 < (a0.size : Int)
  ·rw [if_pos c4] at H
   have c4b0 : decide (a1 < (a0.size : Int)) = true := decide_eq_true c4
   clear c4
   replace H := Option.bind_eq_some_iff.mp H
   obtain ⟨t206, A60, H⟩ := H
   replace H : (if t206 = true then (assessorref02_token.l0 k a0 a1 a1) else ((assessorref02_digit.f (bt a0 a1)).bind fun t211 => (if t211 = true then (assessorref02_token.l1 k a0 a1) else ((assessorref02_symbol.f k a0 a1).bind fun t213 => (if t213 > 0 then ((assessorref02_symbol.f k a0 a1).bind fun t214 => (some (3, wrap64 (a1 + t214)))) else (assessorref02_token.l2 k a0 a1)))))) = some (r1, r2) := H
   have A6 := Aside0.mk A60
   clear A60
   by_cases c7 : t206 = true
   ·subst c7
    have H1 : (assessorref02_token.l0 k a0 a1 a1) = some (r1, r2) := by rw [if_pos rfl] at H; exact H
    clear H
    have H := H1
    clear H1
    have H' := Aside0.mk H
    clear H
    have p5 : 0 ≤ (a1 : Int) := of_decide_eq_true (by first | (with_reducible assumption) | assumption)
    have q5 : a1 < (a0.size : Int) := of_decide_eq_true (by first | (with_reducible assumption) | assumption)
    have hx5 := bt_at a0 a1
    replace p5 := eq_true p5
    replace q5 := eq_true q5
    go_enter Try.func93, Try.ntmps93
    go_wp2_with (first | ((with_reducible refine gate_callee (f := 91) rfl ?_); refine goesL_ (some 12) rfl rfl Try.func91 (by kernel_rfl) rfl #[.int .u8 (bt a0 a1)] rfl (by (try simp only [List.map_toArray, List.map_cons, List.map_nil]); first | done | rfl | (simp only [List.length_drop, List.length_take]; rfl)) ?_; (with_reducible refine (assessorref02_letter.calls (bt a0 a1) true _ A6.out).mono ?_); rintro e w' ⟨rfl, ⟨nd, rfl⟩⟩; refine ⟨_, rfl, ?_⟩))
    go_loopg [6] k (fun kq v6 w' => ∃ (x6_1 : Int), v6 = .int .i64 x6_1 ∧ Aside0 (assessorref02_token.l0 kq a0 a1 x6_1 = some (r1, r2)) ∧ Aside0 (kq ≤ k) ∧ Aside0 (Below w.heap.size w w'))
    case atStart => exact ⟨(a1), (by first | rfl | (simp; done) | (simp [*]; done)), H', ⟨Nat.le_refl _⟩, ⟨by repeat (first | (with_reducible first | exact HB.out | apply below_alloc | apply pw_below_drewN | apply below_drew1) | exact HB.out)⟩⟩
    case round =>
     clear H'
     try clear p2
     try clear c3
     try clear c3b0
     try clear c4
     try clear c4b0
     try clear p5
     try clear q5
     try clear hx5
     try clear p6
     try clear c7
     try clear p5
     try clear q5
     obtain ⟨x6_1, rfl, HA, HK1, HB⟩ := hrel
     cases gk with
     | zero => exact absurd HA.out (by simp [assessorref02_token.l0])
     | succ k1 =>
      have H := HA.out
      clear HA
      simp only [assessorref02_token.l0] at H
      by_cases c8 : x6_1 < (a0.size : Int)
      ·rw [if_pos c8] at H
       have c8b0 : decide (x6_1 < (a0.size : Int)) = true := decide_eq_true c8
       clear c8
       by_cases c9 : 0 ≤ x6_1
       ·rw [if_pos c9] at H
        have c9b0 : decide (0 ≤ x6_1) = true := decide_eq_true c9
        clear c9
        replace H := Option.bind_eq_some_iff.mp H
        obtain ⟨t207, A110, H⟩ := H
        replace H : (if t207 = true then (assessorref02_token.l0 k1 a0 a1 (wrap64 (x6_1 + 1))) else ((assessorref02_digit.f (bt a0 x6_1)).bind fun t208 => (if t208 = true then (assessorref02_token.l0 k1 a0 a1 (wrap64 (x6_1 + 1))) else (if (bt a0 x6_1) = 95 then (assessorref02_token.l0 k1 a0 a1 (wrap64 (x6_1 + 1))) else (if 0 ≤ a1 then (if a1 ≤ x6_1 then (if x6_1 ≤ (a0.size : Int) then ((assessorref02_Keyword.f k1 (a0.extract (a1 : Int).toNat (x6_1 : Int).toNat)).bind fun t209 => (if t209 = true then (some (1, x6_1)) else (some (0, x6_1)))) else (none)) else (none)) else (none)))))) = some (r1, r2) := H
        have A11 := Aside0.mk A110
        clear A110
        by_cases c12 : t207 = true
        ·subst c12
         have H1 : (assessorref02_token.l0 k1 a0 a1 (wrap64 (x6_1 + 1))) = some (r1, r2) := by rw [if_pos rfl] at H; exact H
         clear H
         have H := H1
         clear H1
         have H' := Aside0.mk H
         clear H
         have p10 : 0 ≤ (x6_1 : Int) := of_decide_eq_true (by first | (with_reducible assumption) | assumption)
         have q10 : x6_1 < (a0.size : Int) := of_decide_eq_true (by first | (with_reducible assumption) | assumption)
         have hx10 := bt_at a0 x6_1
         replace p10 := eq_true p10
         replace q10 := eq_true q10
         go_wp2_with (first | (go_at_call 91; (with_reducible refine (assessorref02_letter.calls (bt a0 x6_1) true _ A11.out).mono ?_); rintro e w' ⟨rfl, ⟨nd, rfl⟩⟩))
         go_roundg k1
         case measure => have := HK1.out; omega
         case rel => exact ⟨(wrap64 (x6_1 + 1)), (by first | rfl | (simp; done) | (simp [*]; done)), H', ⟨by have := HK1.out; omega⟩, ⟨by repeat (first | (with_reducible first | exact HB.out | apply below_alloc | apply pw_below_drewN | apply below_drew1) | exact HB.out)⟩⟩
        ·replace c12 := Bool.eq_false_iff.mpr c12
         subst c12
         have H1 : ((assessorref02_digit.f (bt a0 x6_1)).bind fun t208 => (if t208 = true then (assessorref02_token.l0 k1 a0 a1 (wrap64 (x6_1 + 1))) else (if (bt a0 x6_1) = 95 then (assessorref02_token.l0 k1 a0 a1 (wrap64 (x6_1 + 1))) else (if 0 ≤ a1 then (if a1 ≤ x6_1 then (if x6_1 ≤ (a0.size : Int) then ((assessorref02_Keyword.f k1 (a0.extract (a1 : Int).toNat (x6_1 : Int).toNat)).bind fun t209 => (if t209 = true then (some (1, x6_1)) else (some (0, x6_1)))) else (none)) else (none)) else (none))))) = some (r1, r2) := by rw [if_neg (show ¬ (false = true) by decide)] at H; exact H
         clear H
         have H := H1
         clear H1
         replace H := Option.bind_eq_some_iff.mp H
         obtain ⟨t208, A140, H⟩ := H
         replace H : (if t208 = true then (assessorref02_token.l0 k1 a0 a1 (wrap64 (x6_1 + 1))) else (if (bt a0 x6_1) = 95 then (assessorref02_token.l0 k1 a0 a1 (wrap64 (x6_1 + 1))) else (if 0 ≤ a1 then (if a1 ≤ x6_1 then (if x6_1 ≤ (a0.size : Int) then ((assessorref02_Keyword.f k1 (a0.extract (a1 : Int).toNat (x6_1 : Int).toNat)).bind fun t209 => (if t209 = true then (some (1, x6_1)) else (some (0, x6_1)))) else (none)) else (none)) else (none)))) = some (r1, r2) := H
         have A14 := Aside0.mk A140
         clear A140
         by_cases c15 : t208 = true
         ·subst c15
          have H1 : (assessorref02_token.l0 k1 a0 a1 (wrap64 (x6_1 + 1))) = some (r1, r2) := by rw [if_pos rfl] at H; exact H
          clear H
          have H := H1
          clear H1
          have H' := Aside0.mk H
          clear H
          have p10 : 0 ≤ (x6_1 : Int) := of_decide_eq_true (by first | (with_reducible assumption) | assumption)
          have q10 : x6_1 < (a0.size : Int) := of_decide_eq_true (by first | (with_reducible assumption) | assumption)
          have hx10 := bt_at a0 x6_1
          replace p10 := eq_true p10
          replace q10 := eq_true q10
          go_wp2_with (first | (go_at_call 91; (with_reducible refine (assessorref02_letter.calls (bt a0 x6_1) false _ A11.out).mono ?_); rintro e w' ⟨rfl, ⟨nd, rfl⟩⟩; have p13 : 0 ≤ (x6_1 : Int) := of_decide_eq_true (by first | (with_reducible assumption) | assumption); have q13 : x6_1 < (a0.size : Int) := of_decide_eq_true (by first | (with_reducible assumption) | assumption); have hx13 := bt_at a0 x6_1; replace p13 := eq_true p13; replace q13 := eq_true q13) | (go_at_call 98; (with_reducible refine (assessorref02_digit.calls (bt a0 x6_1) true _ A14.out).mono ?_); rintro e w' ⟨rfl, ⟨nd, rfl⟩⟩))
          go_roundg k1
          case measure => have := HK1.out; omega
          case rel => exact ⟨(wrap64 (x6_1 + 1)), (by first | rfl | (simp; done) | (simp [*]; done)), H', ⟨by have := HK1.out; omega⟩, ⟨by repeat (first | (with_reducible first | exact HB.out | apply below_alloc | apply pw_below_drewN | apply below_drew1) | exact HB.out)⟩⟩
         ·replace c15 := Bool.eq_false_iff.mpr c15
          subst c15
          have H1 : (if (bt a0 x6_1) = 95 then (assessorref02_token.l0 k1 a0 a1 (wrap64 (x6_1 + 1))) else (if 0 ≤ a1 then (if a1 ≤ x6_1 then (if x6_1 ≤ (a0.size : Int) then ((assessorref02_Keyword.f k1 (a0.extract (a1 : Int).toNat (x6_1 : Int).toNat)).bind fun t209 => (if t209 = true then (some (1, x6_1)) else (some (0, x6_1)))) else (none)) else (none)) else (none))) = some (r1, r2) := by rw [if_neg (show ¬ (false = true) by decide)] at H; exact H
          clear H
          have H := H1
          clear H1
          by_cases c17 : (bt a0 x6_1) = 95
          ·rw [if_pos c17] at H
           have c17b0 : ((bt a0 x6_1) == 95) = true := beq_iff_eq.mpr c17
           have c17b1 : ((bt a0 x6_1) != 95) = false := bne_eq_false_iff_eq.mpr c17
           clear c17
           have H' := Aside0.mk H
           clear H
           have p10 : 0 ≤ (x6_1 : Int) := of_decide_eq_true (by first | (with_reducible assumption) | assumption)
           have q10 : x6_1 < (a0.size : Int) := of_decide_eq_true (by first | (with_reducible assumption) | assumption)
           have hx10 := bt_at a0 x6_1
           replace p10 := eq_true p10
           replace q10 := eq_true q10
           go_wp2_with (first | (go_at_call 91; (with_reducible refine (assessorref02_letter.calls (bt a0 x6_1) false _ A11.out).mono ?_); rintro e w' ⟨rfl, ⟨nd, rfl⟩⟩; have p13 : 0 ≤ (x6_1 : Int) := of_decide_eq_true (by first | (with_reducible assumption) | assumption); have q13 : x6_1 < (a0.size : Int) := of_decide_eq_true (by first | (with_reducible assumption) | assumption); have hx13 := bt_at a0 x6_1; replace p13 := eq_true p13; replace q13 := eq_true q13) | (go_at_call 98; (with_reducible refine (assessorref02_digit.calls (bt a0 x6_1) false _ A14.out).mono ?_); rintro e w' ⟨rfl, ⟨nd, rfl⟩⟩; have p16 : 0 ≤ (x6_1 : Int) := of_decide_eq_true (by first | (with_reducible assumption) | assumption); have q16 : x6_1 < (a0.size : Int) := of_decide_eq_true (by first | (with_reducible assumption) | assumption); have hx16 := bt_at a0 x6_1; replace p16 := eq_true p16; replace q16 := eq_true q16))
           go_roundg k1
           case measure => have := HK1.out; omega
           case rel => exact ⟨(wrap64 (x6_1 + 1)), (by first | rfl | (simp; done) | (simp [*]; done)), H', ⟨by have := HK1.out; omega⟩, ⟨by repeat (first | (with_reducible first | exact HB.out | apply below_alloc | apply pw_below_drewN | apply below_drew1) | exact HB.out)⟩⟩
          ·rw [if_neg c17] at H
           have c17b0 : ((bt a0 x6_1) == 95) = false := beq_eq_false_iff_ne.mpr c17
           have c17b1 : ((bt a0 x6_1) != 95) = true := bne_iff_ne.mpr c17
           by_cases c18 : 0 ≤ a1
           ·rw [if_pos c18] at H
            have c18b0 := eq_true c18
            have c18b1 : decide (0 ≤ a1) = true := decide_eq_true c18
            clear c18
            by_cases c19 : a1 ≤ x6_1
            ·rw [if_pos c19] at H
             have c19b0 := eq_true c19
             have c19b1 : decide (a1 ≤ x6_1) = true := decide_eq_true c19
             clear c19
             by_cases c20 : x6_1 ≤ (a0.size : Int)
             ·rw [if_pos c20] at H
              have c20b0 := eq_true c20
              have c20b1 : decide (x6_1 ≤ (a0.size : Int)) = true := decide_eq_true c20
              clear c20
              replace H := Option.bind_eq_some_iff.mp H
              obtain ⟨t209, A210, H⟩ := H
              replace H : (if t209 = true then (some (1, x6_1)) else (some (0, x6_1))) = some (r1, r2) := H
              have A21 := Aside0.mk A210
              clear A210
              by_cases c22 : t209 = true
              ·subst c22
               have H1 : (some (1, x6_1)) = some (r1, r2) := by rw [if_pos rfl] at H; exact H
               clear H
               have H := H1
               clear H1
               simp only [Option.some.injEq, Prod.mk.injEq] at H
               obtain ⟨rfl, rfl⟩ := H
               have p10 : 0 ≤ (x6_1 : Int) := of_decide_eq_true (by first | (with_reducible assumption) | assumption)
               have q10 : x6_1 < (a0.size : Int) := of_decide_eq_true (by first | (with_reducible assumption) | assumption)
               have hx10 := bt_at a0 x6_1
               replace p10 := eq_true p10
               replace q10 := eq_true q10
               go_wp2_with (first | (go_at_call 91; (with_reducible refine (assessorref02_letter.calls (bt a0 x6_1) false _ A11.out).mono ?_); rintro e w' ⟨rfl, ⟨nd, rfl⟩⟩; have p13 : 0 ≤ (x6_1 : Int) := of_decide_eq_true (by first | (with_reducible assumption) | assumption); have q13 : x6_1 < (a0.size : Int) := of_decide_eq_true (by first | (with_reducible assumption) | assumption); have hx13 := bt_at a0 x6_1; replace p13 := eq_true p13; replace q13 := eq_true q13) | (go_at_call 98; (with_reducible refine (assessorref02_digit.calls (bt a0 x6_1) false _ A14.out).mono ?_); rintro e w' ⟨rfl, ⟨nd, rfl⟩⟩; have p16 : 0 ≤ (x6_1 : Int) := of_decide_eq_true (by first | (with_reducible assumption) | assumption); have q16 : x6_1 < (a0.size : Int) := of_decide_eq_true (by first | (with_reducible assumption) | assumption); have hx16 := bt_at a0 x6_1; replace p16 := eq_true p16; replace q16 := eq_true q16) | ((with_reducible refine gate_callee (f := 92) rfl ?_); refine goesL_ (some 41) rfl rfl Try.func92 (by kernel_rfl) rfl #[.string (a0.extract (a1 : Int).toNat (x6_1 : Int).toNat)] rfl (by (try simp only [List.map_toArray, List.map_cons, List.map_nil]); first | done | rfl | (simp only [List.length_drop, List.length_take]; rfl)) ?_; (with_reducible refine (assessorref02_Keyword.calls k1 (a0.extract (a1 : Int).toNat (x6_1 : Int).toNat) true _ A21.out).mono ?_); rintro e w23 ⟨rfl, hb⟩; refine ⟨_, rfl, ?_⟩; have n0_ := Aside0.mk (below_step (by repeat (first | (with_reducible first | exact HB.out | apply below_alloc | apply pw_below_drewN | apply below_drew1) | exact HB.out)) hb); clear HB; have HB := n0_; clear n0_; (try clear hb); (try clear hb2); (try clear hk); (try clear hi)))
               go_ret2
               exact ⟨by first | rfl | (simp [errW_none, errW_some] <;> rfl) | (simp [*, errW_none, errW_some] <;> rfl) | (simp [IntKind.wrap_i64, wrap64]; done), by repeat (first | (with_reducible first | exact HB.out | apply below_alloc | apply pw_below_drewN | apply below_drew1) | exact HB.out)⟩
              ·replace c22 := Bool.eq_false_iff.mpr c22
               subst c22
               have H1 : (some (0, x6_1)) = some (r1, r2) := by rw [if_neg (show ¬ (false = true) by decide)] at H; exact H
               clear H
               have H := H1
               clear H1
               simp only [Option.some.injEq, Prod.mk.injEq] at H
               obtain ⟨rfl, rfl⟩ := H
               have p10 : 0 ≤ (x6_1 : Int) := of_decide_eq_true (by first | (with_reducible assumption) | assumption)
               have q10 : x6_1 < (a0.size : Int) := of_decide_eq_true (by first | (with_reducible assumption) | assumption)
               have hx10 := bt_at a0 x6_1
               replace p10 := eq_true p10
               replace q10 := eq_true q10
               go_wp2_with (first | (go_at_call 91; (with_reducible refine (assessorref02_letter.calls (bt a0 x6_1) false _ A11.out).mono ?_); rintro e w' ⟨rfl, ⟨nd, rfl⟩⟩; have p13 : 0 ≤ (x6_1 : Int) := of_decide_eq_true (by first | (with_reducible assumption) | assumption); have q13 : x6_1 < (a0.size : Int) := of_decide_eq_true (by first | (with_reducible assumption) | assumption); have hx13 := bt_at a0 x6_1; replace p13 := eq_true p13; replace q13 := eq_true q13) | (go_at_call 98; (with_reducible refine (assessorref02_digit.calls (bt a0 x6_1) false _ A14.out).mono ?_); rintro e w' ⟨rfl, ⟨nd, rfl⟩⟩; have p16 : 0 ≤ (x6_1 : Int) := of_decide_eq_true (by first | (with_reducible assumption) | assumption); have q16 : x6_1 < (a0.size : Int) := of_decide_eq_true (by first | (with_reducible assumption) | assumption); have hx16 := bt_at a0 x6_1; replace p16 := eq_true p16; replace q16 := eq_true q16) | ((with_reducible refine gate_callee (f := 92) rfl ?_); refine goesL_ (some 41) rfl rfl Try.func92 (by kernel_rfl) rfl #[.string (a0.extract (a1 : Int).toNat (x6_1 : Int).toNat)] rfl (by (try simp only [List.map_toArray, List.map_cons, List.map_nil]); first | done | rfl | (simp only [List.length_drop, List.length_take]; rfl)) ?_; (with_reducible refine (assessorref02_Keyword.calls k1 (a0.extract (a1 : Int).toNat (x6_1 : Int).toNat) false _ A21.out).mono ?_); rintro e w24 ⟨rfl, hb⟩; refine ⟨_, rfl, ?_⟩; have n0_ := Aside0.mk (below_step (by repeat (first | (with_reducible first | exact HB.out | apply below_alloc | apply pw_below_drewN | apply below_drew1) | exact HB.out)) hb); clear HB; have HB := n0_; clear n0_; (try clear hb); (try clear hb2); (try clear hk); (try clear hi)))
               go_ret2
               exact ⟨by first | rfl | (simp [errW_none, errW_some] <;> rfl) | (simp [*, errW_none, errW_some] <;> rfl) | (simp [IntKind.wrap_i64, wrap64]; done), by repeat (first | (with_reducible first | exact HB.out | apply below_alloc | apply pw_below_drewN | apply below_drew1) | exact HB.out)⟩
             ·rw [if_neg c20] at H
              exact absurd H (by simp)
            ·rw [if_neg c19] at H
             exact absurd H (by simp)
           ·rw [if_neg c18] at H
            exact absurd H (by simp)
       ·rw [if_neg c9] at H
        exact absurd H (by simp)
      ·rw [if_neg c8] at H
       have c8b0 : decide (x6_1 < (a0.size : Int)) = false := decide_eq_false c8
       clear c8
       by_cases c25 : 0 ≤ a1
       ·rw [if_pos c25] at H
        have c25b0 := eq_true c25
        have c25b1 : decide (0 ≤ a1) = true := decide_eq_true c25
        clear c25
        by_cases c26 : a1 ≤ x6_1
        ·rw [if_pos c26] at H
         have c26b0 := eq_true c26
         have c26b1 : decide (a1 ≤ x6_1) = true := decide_eq_true c26
         clear c26
         by_cases c27 : x6_1 ≤ (a0.size : Int)
         ·rw [if_pos c27] at H
          have c27b0 := eq_true c27
          have c27b1 : decide (x6_1 ≤ (a0.size : Int)) = true := decide_eq_true c27
          clear c27
          replace H := Option.bind_eq_some_iff.mp H
          obtain ⟨t210, A280, H⟩ := H
          replace H : (if t210 = true then (some (1, x6_1)) else (some (0, x6_1))) = some (r1, r2) := H
          have A28 := Aside0.mk A280
          clear A280
          by_cases c29 : t210 = true
          ·subst c29
           have H1 : (some (1, x6_1)) = some (r1, r2) := by rw [if_pos rfl] at H; exact H
           clear H
           have H := H1
           clear H1
           simp only [Option.some.injEq, Prod.mk.injEq] at H
           obtain ⟨rfl, rfl⟩ := H
           go_wp2_with (first | ((with_reducible refine gate_callee (f := 92) rfl ?_); refine goesL_ (some 41) rfl rfl Try.func92 (by kernel_rfl) rfl #[.string (a0.extract (a1 : Int).toNat (x6_1 : Int).toNat)] rfl (by (try simp only [List.map_toArray, List.map_cons, List.map_nil]); first | done | rfl | (simp only [List.length_drop, List.length_take]; rfl)) ?_; (with_reducible refine (assessorref02_Keyword.calls k1 (a0.extract (a1 : Int).toNat (x6_1 : Int).toNat) true _ A28.out).mono ?_); rintro e w30 ⟨rfl, hb⟩; refine ⟨_, rfl, ?_⟩; have n0_ := Aside0.mk (below_step (by repeat (first | (with_reducible first | exact HB.out | apply below_alloc | apply pw_below_drewN | apply below_drew1) | exact HB.out)) hb); clear HB; have HB := n0_; clear n0_; (try clear hb); (try clear hb2); (try clear hk); (try clear hi)))
           go_ret2
           exact ⟨by first | rfl | (simp [errW_none, errW_some] <;> rfl) | (simp [*, errW_none, errW_some] <;> rfl) | (simp [IntKind.wrap_i64, wrap64]; done), by repeat (first | (with_reducible first | exact HB.out | apply below_alloc | apply pw_below_drewN | apply below_drew1) | exact HB.out)⟩
          ·replace c29 := Bool.eq_false_iff.mpr c29
           subst c29
           have H1 : (some (0, x6_1)) = some (r1, r2) := by rw [if_neg (show ¬ (false = true) by decide)] at H; exact H
           clear H
           have H := H1
           clear H1
           simp only [Option.some.injEq, Prod.mk.injEq] at H
           obtain ⟨rfl, rfl⟩ := H
           go_wp2_with (first | ((with_reducible refine gate_callee (f := 92) rfl ?_); refine goesL_ (some 41) rfl rfl Try.func92 (by kernel_rfl) rfl #[.string (a0.extract (a1 : Int).toNat (x6_1 : Int).toNat)] rfl (by (try simp only [List.map_toArray, List.map_cons, List.map_nil]); first | done | rfl | (simp only [List.length_drop, List.length_take]; rfl)) ?_; (with_reducible refine (assessorref02_Keyword.calls k1 (a0.extract (a1 : Int).toNat (x6_1 : Int).toNat) false _ A28.out).mono ?_); rintro e w31 ⟨rfl, hb⟩; refine ⟨_, rfl, ?_⟩; have n0_ := Aside0.mk (below_step (by repeat (first | (with_reducible first | exact HB.out | apply below_alloc | apply pw_below_drewN | apply below_drew1) | exact HB.out)) hb); clear HB; have HB := n0_; clear n0_; (try clear hb); (try clear hb2); (try clear hk); (try clear hi)))
           go_ret2
           exact ⟨by first | rfl | (simp [errW_none, errW_some] <;> rfl) | (simp [*, errW_none, errW_some] <;> rfl) | (simp [IntKind.wrap_i64, wrap64]; done), by repeat (first | (with_reducible first | exact HB.out | apply below_alloc | apply pw_below_drewN | apply below_drew1) | exact HB.out)⟩
         ·rw [if_neg c27] at H
          exact absurd H (by simp)
        ·rw [if_neg c26] at H
         exact absurd H (by simp)
       ·rw [if_neg c25] at H
        exact absurd H (by simp)
   ·replace c7 := Bool.eq_false_iff.mpr c7
    subst c7
    have H1 : ((assessorref02_digit.f (bt a0 a1)).bind fun t211 => (if t211 = true then (assessorref02_token.l1 k a0 a1) else ((assessorref02_symbol.f k a0 a1).bind fun t213 => (if t213 > 0 then ((assessorref02_symbol.f k a0 a1).bind fun t214 => (some (3, wrap64 (a1 + t214)))) else (assessorref02_token.l2 k a0 a1))))) = some (r1, r2) := by rw [if_neg (show ¬ (false = true) by decide)] at H; exact H
    clear H
    have H := H1
    clear H1
    replace H := Option.bind_eq_some_iff.mp H
    obtain ⟨t211, A330, H⟩ := H
    replace H : (if t211 = true then (assessorref02_token.l1 k a0 a1) else ((assessorref02_symbol.f k a0 a1).bind fun t213 => (if t213 > 0 then ((assessorref02_symbol.f k a0 a1).bind fun t214 => (some (3, wrap64 (a1 + t214)))) else (assessorref02_token.l2 k a0 a1)))) = some (r1, r2) := H
    have A33 := Aside0.mk A330
    clear A330
    by_cases c34 : t211 = true
    ·subst c34
     have H1 : (assessorref02_token.l1 k a0 a1) = some (r1, r2) := by rw [if_pos rfl] at H; exact H
     clear H
     have H := H1
     clear H1
     have H' := Aside0.mk H
     clear H
     have p5 : 0 ≤ (a1 : Int) := of_decide_eq_true (by first | (with_reducible assumption) | assumption)
     have q5 : a1 < (a0.size : Int) := of_decide_eq_true (by first | (with_reducible assumption) | assumption)
     have hx5 := bt_at a0 a1
     replace p5 := eq_true p5
     replace q5 := eq_true q5
     go_enter Try.func93, Try.ntmps93
     go_wp2_with (first | ((with_reducible refine gate_callee (f := 91) rfl ?_); refine goesL_ (some 12) rfl rfl Try.func91 (by kernel_rfl) rfl #[.int .u8 (bt a0 a1)] rfl (by (try simp only [List.map_toArray, List.map_cons, List.map_nil]); first | done | rfl | (simp only [List.length_drop, List.length_take]; rfl)) ?_; (with_reducible refine (assessorref02_letter.calls (bt a0 a1) false _ A6.out).mono ?_); rintro e w' ⟨rfl, ⟨nd, rfl⟩⟩; refine ⟨_, rfl, ?_⟩; have p32 : 0 ≤ (a1 : Int) := of_decide_eq_true (by first | (with_reducible assumption) | assumption); have q32 : a1 < (a0.size : Int) := of_decide_eq_true (by first | (with_reducible assumption) | assumption); have hx32 := bt_at a0 a1; replace p32 := eq_true p32; replace q32 := eq_true q32) | ((with_reducible refine gate_callee (f := 98) rfl ?_); refine goesL_ (some 48) rfl rfl Try.func98 (by kernel_rfl) rfl #[.int .u8 (bt a0 a1)] rfl (by (try simp only [List.map_toArray, List.map_cons, List.map_nil]); first | done | rfl | (simp only [List.length_drop, List.length_take]; rfl)) ?_; (with_reducible refine (assessorref02_digit.calls (bt a0 a1) true _ A33.out).mono ?_); rintro e w' ⟨rfl, ⟨nd, rfl⟩⟩; refine ⟨_, rfl, ?_⟩))
     go_loopg [6] k (fun kq v6 w' => ∃ (x6_1 : Int), v6 = .int .i64 x6_1 ∧ Aside0 (assessorref02_token.l1 kq a0 x6_1 = some (r1, r2)) ∧ Aside0 (kq ≤ k) ∧ Aside0 (Below w.heap.size w w'))
     case atStart => exact ⟨(a1), (by first | rfl | (simp; done) | (simp [*]; done)), H', ⟨Nat.le_refl _⟩, ⟨by repeat (first | (with_reducible first | exact HB.out | apply below_alloc | apply pw_below_drewN | apply below_drew1) | exact HB.out)⟩⟩
     case round =>
      clear H'
      try clear c1
      try clear p1
      try clear q1
      try clear hx1
      try clear c2
      try clear p2
      try clear c3
      try clear c3b0
      try clear p3
      try clear q3
      try clear hx3
      try clear c4
      try clear c4b0
      try clear p5
      try clear q5
      try clear hx5
      try clear p6
      try clear c7
      try clear c8
      try clear c8b0
      try clear c9
      try clear c9b0
      try clear p10
      try clear q10
      try clear hx10
      try clear c12
      try clear p13
      try clear q13
      try clear hx13
      try clear c15
      try clear p16
      try clear q16
      try clear hx16
      try clear c17
      try clear c17b0
      try clear c17b1
      try clear c18
      try clear c18b0
      try clear c18b1
      try clear c19
      try clear c19b0
      try clear c19b1
      try clear c20
      try clear c20b0
      try clear c20b1
      try clear c22
      try clear c25
      try clear c25b0
      try clear c25b1
      try clear c26
      try clear c26b0
      try clear c26b1
      try clear c27
      try clear c27b0
      try clear c27b1
      try clear c29
      try clear p32
      try clear q32
      try clear hx32
      try clear c34
      try clear p10
      try clear p13
      try clear p16
      try clear p2
      try clear p32
      try clear p5
      try clear p6
      try clear q10
      try clear q13
      try clear q16
      try clear q32
      try clear q5
      obtain ⟨x6_1, rfl, HA, HK1, HB⟩ := hrel
      cases gk with
      | zero => exact absurd HA.out (by simp [assessorref02_token.l1])
      | succ k1 =>
       have H := HA.out
       clear HA
       simp only [assessorref02_token.l1] at H
       by_cases c35 : x6_1 < (a0.size : Int)
       ·rw [if_pos c35] at H
        have c35b0 : decide (x6_1 < (a0.size : Int)) = true := decide_eq_true c35
        clear c35
        by_cases c36 : 0 ≤ x6_1
        ·rw [if_pos c36] at H
         have c36b0 : decide (0 ≤ x6_1) = true := decide_eq_true c36
         clear c36
         replace H := Option.bind_eq_some_iff.mp H
         obtain ⟨t212, A380, H⟩ := H
         replace H : (if t212 = true then (assessorref02_token.l1 k1 a0 (wrap64 (x6_1 + 1))) else (some (2, x6_1))) = some (r1, r2) := H
         have A38 := Aside0.mk A380
         clear A380
         by_cases c39 : t212 = true
         ·subst c39
          have H1 : (assessorref02_token.l1 k1 a0 (wrap64 (x6_1 + 1))) = some (r1, r2) := by rw [if_pos rfl] at H; exact H
          clear H
          have H := H1
          clear H1
          have H' := Aside0.mk H
          clear H
          have p37 : 0 ≤ (x6_1 : Int) := of_decide_eq_true (by first | (with_reducible assumption) | assumption)
          have q37 : x6_1 < (a0.size : Int) := of_decide_eq_true (by first | (with_reducible assumption) | assumption)
          have hx37 := bt_at a0 x6_1
          replace p37 := eq_true p37
          replace q37 := eq_true q37
          go_wp2_with (first | (go_at_call 98; (with_reducible refine (assessorref02_digit.calls (bt a0 x6_1) true _ A38.out).mono ?_); rintro e w' ⟨rfl, ⟨nd, rfl⟩⟩))
          go_roundg k1
          case measure => have := HK1.out; omega
          case rel => exact ⟨(wrap64 (x6_1 + 1)), (by first | rfl | (simp; done) | (simp [*]; done)), H', ⟨by have := HK1.out; omega⟩, ⟨by repeat (first | (with_reducible first | exact HB.out | apply below_alloc | apply pw_below_drewN | apply below_drew1) | exact HB.out)⟩⟩
         ·replace c39 := Bool.eq_false_iff.mpr c39
          subst c39
          have H1 : (some (2, x6_1)) = some (r1, r2) := by rw [if_neg (show ¬ (false = true) by decide)] at H; exact H
          clear H
          have H := H1
          clear H1
          simp only [Option.some.injEq, Prod.mk.injEq] at H
          obtain ⟨rfl, rfl⟩ := H
          have p37 : 0 ≤ (x6_1 : Int) := of_decide_eq_true (by first | (with_reducible assumption) | assumption)
          have q37 : x6_1 < (a0.size : Int) := of_decide_eq_true (by first | (with_reducible assumption) | assumption)
          have hx37 := bt_at a0 x6_1
          replace p37 := eq_true p37
          replace q37 := eq_true q37
          go_wp2_with (first | (go_at_call 98; (with_reducible refine (assessorref02_digit.calls (bt a0 x6_1) false _ A38.out).mono ?_); rintro e w' ⟨rfl, ⟨nd, rfl⟩⟩))
          go_ret2
          exact ⟨by first | rfl | (simp [errW_none, errW_some] <;> rfl) | (simp [*, errW_none, errW_some] <;> rfl) | (simp [IntKind.wrap_i64, wrap64]; done), by repeat (first | (with_reducible first | exact HB.out | apply below_alloc | apply pw_below_drewN | apply below_drew1) | exact HB.out)⟩
        ·rw [if_neg c36] at H
         exact absurd H (by simp)
       ·rw [if_neg c35] at H
        have c35b0 : decide (x6_1 < (a0.size : Int)) = false := decide_eq_false c35
        clear c35
        simp only [Option.some.injEq, Prod.mk.injEq] at H
        obtain ⟨rfl, rfl⟩ := H
        go_wp2
        go_ret2
        exact ⟨by first | rfl | (simp [errW_none, errW_some] <;> rfl) | (simp [*, errW_none, errW_some] <;> rfl) | (simp [IntKind.wrap_i64, wrap64]; done), by repeat (first | (with_reducible first | exact HB.out | apply below_alloc | apply pw_below_drewN | apply below_drew1) | exact HB.out)⟩
    ·replace c34 := Bool.eq_false_iff.mpr c34
     subst c34
     have H1 : ((assessorref02_symbol.f k a0 a1).bind fun t213 => (if t213 > 0 then ((assessorref02_symbol.f k a0 a1).bind fun t214 => (some (3, wrap64 (a1 + t214)))) else (assessorref02_token.l2 k a0 a1))) = some (r1, r2) := by rw [if_neg (show ¬ (false = true) by decide)] at H; exact H
     clear H
     have H := H1
     clear H1
     replace H := Option.bind_eq_some_iff.mp H
     obtain ⟨t213, A400, H⟩ := H
     replace H : (if t213 > 0 then ((assessorref02_symbol.f k a0 a1).bind fun t214 => (some (3, wrap64 (a1 + t214)))) else (assessorref02_token.l2 k a0 a1)) = some (r1, r2) := H
     have A40 := Aside0.mk A400
     clear A400
     by_cases c41 : t213 > 0
     ·rw [if_pos c41] at H
      have c41b0 : decide (0 < t213) = true := decide_eq_true c41
      clear c41
      replace H := Option.bind_eq_some_iff.mp H
      obtain ⟨t214, A420, H⟩ := H
      replace H : (some (3, wrap64 (a1 + t214))) = some (r1, r2) := H
      have A42 := Aside0.mk A420
      clear A420
      simp only [Option.some.injEq, Prod.mk.injEq] at H
      obtain ⟨rfl, rfl⟩ := H
      have p5 : 0 ≤ (a1 : Int) := of_decide_eq_true (by first | (with_reducible assumption) | assumption)
      have q5 : a1 < (a0.size : Int) := of_decide_eq_true (by first | (with_reducible assumption) | assumption)
      have hx5 := bt_at a0 a1
      replace p5 := eq_true p5
      replace q5 := eq_true q5
      go_enter Try.func93, Try.ntmps93
      go_wp2_with (first | ((with_reducible refine gate_callee (f := 91) rfl ?_); refine goesL_ (some 12) rfl rfl Try.func91 (by kernel_rfl) rfl #[.int .u8 (bt a0 a1)] rfl (by (try simp only [List.map_toArray, List.map_cons, List.map_nil]); first | done | rfl | (simp only [List.length_drop, List.length_take]; rfl)) ?_; (with_reducible refine (assessorref02_letter.calls (bt a0 a1) false _ A6.out).mono ?_); rintro e w' ⟨rfl, ⟨nd, rfl⟩⟩; refine ⟨_, rfl, ?_⟩; have p32 : 0 ≤ (a1 : Int) := of_decide_eq_true (by first | (with_reducible assumption) | assumption); have q32 : a1 < (a0.size : Int) := of_decide_eq_true (by first | (with_reducible assumption) | assumption); have hx32 := bt_at a0 a1; replace p32 := eq_true p32; replace q32 := eq_true q32) | ((with_reducible refine gate_callee (f := 98) rfl ?_); refine goesL_ (some 48) rfl rfl Try.func98 (by kernel_rfl) rfl #[.int .u8 (bt a0 a1)] rfl (by (try simp only [List.map_toArray, List.map_cons, List.map_nil]); first | done | rfl | (simp only [List.length_drop, List.length_take]; rfl)) ?_; (with_reducible refine (assessorref02_digit.calls (bt a0 a1) false _ A33.out).mono ?_); rintro e w' ⟨rfl, ⟨nd, rfl⟩⟩; refine ⟨_, rfl, ?_⟩) | ((with_reducible refine gate_callee (f := 99) rfl ?_); refine goesL_ (some 65) rfl rfl Try.func99 (by kernel_rfl) rfl #[.string a0, .int .i64 a1] rfl (by (try simp only [List.map_toArray, List.map_cons, List.map_nil]); first | done | rfl | (simp only [List.length_drop, List.length_take]; rfl)) ?_; (with_reducible refine (assessorref02_symbol.calls k a0 a1 t213 _ A40.out).mono ?_); rintro e w43 ⟨rfl, hb⟩; refine ⟨_, rfl, ?_⟩; have n0_ := Aside0.mk (below_step (by repeat (first | (with_reducible first | exact HB.out | apply below_alloc | apply pw_below_drewN | apply below_drew1) | exact HB.out)) hb); clear HB; have HB := n0_; clear n0_; (try clear hb); (try clear hb2); (try clear hk); (try clear hi)) | ((with_reducible refine gate_callee (f := 99) rfl ?_); refine goesL_ (some 70) rfl rfl Try.func99 (by kernel_rfl) rfl #[.string a0, .int .i64 a1] rfl (by (try simp only [List.map_toArray, List.map_cons, List.map_nil]); first | done | rfl | (simp only [List.length_drop, List.length_take]; rfl)) ?_; (with_reducible refine (assessorref02_symbol.calls k a0 a1 t214 _ A42.out).mono ?_); rintro e w44 ⟨rfl, hb⟩; refine ⟨_, rfl, ?_⟩; have n0_ := Aside0.mk (below_step (by repeat (first | (with_reducible first | exact HB.out | apply below_alloc | apply pw_below_drewN | apply below_drew1) | exact HB.out)) hb); clear HB; have HB := n0_; clear n0_; (try clear hb); (try clear hb2); (try clear hk); (try clear hi)))
      go_ret2
      exact ⟨by first | rfl | (simp [errW_none, errW_some] <;> rfl) | (simp [*, errW_none, errW_some] <;> rfl) | (simp [IntKind.wrap_i64, wrap64]; done), by repeat (first | (with_reducible first | exact HB.out | apply below_alloc | apply pw_below_drewN | apply below_drew1) | exact HB.out)⟩
     ·rw [if_neg c41] at H
      have c41b0 : decide (0 < t213) = false := decide_eq_false c41
      clear c41
      have H' := Aside0.mk H
      clear H
      have p5 : 0 ≤ (a1 : Int) := of_decide_eq_true (by first | (with_reducible assumption) | assumption)
      have q5 : a1 < (a0.size : Int) := of_decide_eq_true (by first | (with_reducible assumption) | assumption)
      have hx5 := bt_at a0 a1
      replace p5 := eq_true p5
      replace q5 := eq_true q5
      go_enter Try.func93, Try.ntmps93
      go_wp2_with (first | ((with_reducible refine gate_callee (f := 91) rfl ?_); refine goesL_ (some 12) rfl rfl Try.func91 (by kernel_rfl) rfl #[.int .u8 (bt a0 a1)] rfl (by (try simp only [List.map_toArray, List.map_cons, List.map_nil]); first | done | rfl | (simp only [List.length_drop, List.length_take]; rfl)) ?_; (with_reducible refine (assessorref02_letter.calls (bt a0 a1) false _ A6.out).mono ?_); rintro e w' ⟨rfl, ⟨nd, rfl⟩⟩; refine ⟨_, rfl, ?_⟩; have p32 : 0 ≤ (a1 : Int) := of_decide_eq_true (by first | (with_reducible assumption) | assumption); have q32 : a1 < (a0.size : Int) := of_decide_eq_true (by first | (with_reducible assumption) | assumption); have hx32 := bt_at a0 a1; replace p32 := eq_true p32; replace q32 := eq_true q32) | ((with_reducible refine gate_callee (f := 98) rfl ?_); refine goesL_ (some 48) rfl rfl Try.func98 (by kernel_rfl) rfl #[.int .u8 (bt a0 a1)] rfl (by (try simp only [List.map_toArray, List.map_cons, List.map_nil]); first | done | rfl | (simp only [List.length_drop, List.length_take]; rfl)) ?_; (with_reducible refine (assessorref02_digit.calls (bt a0 a1) false _ A33.out).mono ?_); rintro e w' ⟨rfl, ⟨nd, rfl⟩⟩; refine ⟨_, rfl, ?_⟩) | ((with_reducible refine gate_callee (f := 99) rfl ?_); refine goesL_ (some 65) rfl rfl Try.func99 (by kernel_rfl) rfl #[.string a0, .int .i64 a1] rfl (by (try simp only [List.map_toArray, List.map_cons, List.map_nil]); first | done | rfl | (simp only [List.length_drop, List.length_take]; rfl)) ?_; (with_reducible refine (assessorref02_symbol.calls k a0 a1 t213 _ A40.out).mono ?_); rintro e w45 ⟨rfl, hb⟩; refine ⟨_, rfl, ?_⟩; have n0_ := Aside0.mk (below_step (by repeat (first | (with_reducible first | exact HB.out | apply below_alloc | apply pw_below_drewN | apply below_drew1) | exact HB.out)) hb); clear HB; have HB := n0_; clear n0_; (try clear hb); (try clear hb2); (try clear hk); (try clear hi)))
      go_loopg [6] k (fun kq v6 w' => ∃ (x6_1 : Int), v6 = .int .i64 x6_1 ∧ Aside0 (assessorref02_token.l2 kq a0 x6_1 = some (r1, r2)) ∧ Aside0 (kq ≤ k) ∧ Aside0 (Below w.heap.size w w'))
      case atStart => exact ⟨(a1), (by first | rfl | (simp; done) | (simp [*]; done)), H', ⟨Nat.le_refl _⟩, ⟨by repeat (first | (with_reducible first | exact HB.out | apply below_alloc | apply pw_below_drewN | apply below_drew1) | exact HB.out)⟩⟩
      case round =>
       clear H'
       try clear c1
       try clear p1
       try clear q1
       try clear hx1
       try clear c2
       try clear p2
       try clear c3
       try clear c3b0
       try clear p3
       try clear q3
       try clear hx3
       try clear c4
       try clear c4b0
       try clear p5
       try clear q5
       try clear hx5
       try clear p6
       try clear c7
       try clear c8
       try clear c8b0
       try clear c9
       try clear c9b0
       try clear p10
       try clear q10
       try clear hx10
       try clear c12
       try clear p13
       try clear q13
       try clear hx13
       try clear c15
       try clear p16
       try clear q16
       try clear hx16
       try clear c17
       try clear c17b0
       try clear c17b1
       try clear c18
       try clear c18b0
       try clear c18b1
       try clear c19
       try clear c19b0
       try clear c19b1
       try clear c20
       try clear c20b0
       try clear c20b1
       try clear c22
       try clear c25
       try clear c25b0
       try clear c25b1
       try clear c26
       try clear c26b0
       try clear c26b1
       try clear c27
       try clear c27b0
       try clear c27b1
       try clear c29
       try clear p32
       try clear q32
       try clear hx32
       try clear c34
       try clear c35
       try clear c35b0
       try clear c36
       try clear c36b0
       try clear p37
       try clear q37
       try clear hx37
       try clear c39
       try clear c41
       try clear c41b0
       try clear p1
       try clear p10
       try clear p13
       try clear p16
       try clear p2
       try clear p3
       try clear p32
       try clear p37
       try clear p5
       try clear p6
       try clear q1
       try clear q10
       try clear q13
       try clear q16
       try clear q3
       try clear q32
       try clear q37
       try clear q5
       obtain ⟨x6_1, rfl, HA, HK1, HB⟩ := hrel
       cases gk with
       | zero => exact absurd HA.out (by simp [assessorref02_token.l2])
       | succ k1 =>
        have H := HA.out
        clear HA
        simp only [assessorref02_token.l2] at H
        by_cases c46 : x6_1 < (a0.size : Int)
        ·rw [if_pos c46] at H
         have c46b0 : decide (x6_1 < (a0.size : Int)) = true := decide_eq_true c46
         clear c46
         by_cases c47 : 0 ≤ x6_1
         ·rw [if_pos c47] at H
          have c47b0 : decide (0 ≤ x6_1) = true := decide_eq_true c47
          clear c47
          replace H := Option.bind_eq_some_iff.mp H
          obtain ⟨t215, A490, H⟩ := H
          replace H : (if t215 = true then (some (4, x6_1)) else (if (bt a0 x6_1) = 35 then (some (4, x6_1)) else ((assessorref02_begins.f k1 a0 x6_1).bind fun t216 => (if t216 = true then (some (4, x6_1)) else (assessorref02_token.l2 k1 a0 (wrap64 (x6_1 + 1))))))) = some (r1, r2) := H
          have A49 := Aside0.mk A490
          clear A490
          by_cases c50 : t215 = true
          ·subst c50
           have H1 : (some (4, x6_1)) = some (r1, r2) := by rw [if_pos rfl] at H; exact H
           clear H
           have H := H1
           clear H1
           simp only [Option.some.injEq, Prod.mk.injEq] at H
           obtain ⟨rfl, rfl⟩ := H
           have p48 : 0 ≤ (x6_1 : Int) := of_decide_eq_true (by first | (with_reducible assumption) | assumption)
           have q48 : x6_1 < (a0.size : Int) := of_decide_eq_true (by first | (with_reducible assumption) | assumption)
           have hx48 := bt_at a0 x6_1
           replace p48 := eq_true p48
           replace q48 := eq_true q48
           go_wp2_with (first | (go_at_call 100; (with_reducible refine (assessorref02_blank.calls (bt a0 x6_1) true _ A49.out).mono ?_); rintro e w' ⟨rfl, ⟨nd, rfl⟩⟩))
           go_ret2
           exact ⟨by first | rfl | (simp [errW_none, errW_some] <;> rfl) | (simp [*, errW_none, errW_some] <;> rfl) | (simp [IntKind.wrap_i64, wrap64]; done), by repeat (first | (with_reducible first | exact HB.out | apply below_alloc | apply pw_below_drewN | apply below_drew1) | exact HB.out)⟩
          ·replace c50 := Bool.eq_false_iff.mpr c50
           subst c50
           have H1 : (if (bt a0 x6_1) = 35 then (some (4, x6_1)) else ((assessorref02_begins.f k1 a0 x6_1).bind fun t216 => (if t216 = true then (some (4, x6_1)) else (assessorref02_token.l2 k1 a0 (wrap64 (x6_1 + 1)))))) = some (r1, r2) := by rw [if_neg (show ¬ (false = true) by decide)] at H; exact H
           clear H
           have H := H1
           clear H1
           by_cases c52 : (bt a0 x6_1) = 35
           ·rw [if_pos c52] at H
            have c52b0 : ((bt a0 x6_1) == 35) = true := beq_iff_eq.mpr c52
            have c52b1 : ((bt a0 x6_1) != 35) = false := bne_eq_false_iff_eq.mpr c52
            clear c52
            simp only [Option.some.injEq, Prod.mk.injEq] at H
            obtain ⟨rfl, rfl⟩ := H
            have p48 : 0 ≤ (x6_1 : Int) := of_decide_eq_true (by first | (with_reducible assumption) | assumption)
            have q48 : x6_1 < (a0.size : Int) := of_decide_eq_true (by first | (with_reducible assumption) | assumption)
            have hx48 := bt_at a0 x6_1
            replace p48 := eq_true p48
            replace q48 := eq_true q48
            go_wp2_with (first | (go_at_call 100; (with_reducible refine (assessorref02_blank.calls (bt a0 x6_1) false _ A49.out).mono ?_); rintro e w' ⟨rfl, ⟨nd, rfl⟩⟩; have p51 : 0 ≤ (x6_1 : Int) := of_decide_eq_true (by first | (with_reducible assumption) | assumption); have q51 : x6_1 < (a0.size : Int) := of_decide_eq_true (by first | (with_reducible assumption) | assumption); have hx51 := bt_at a0 x6_1; replace p51 := eq_true p51; replace q51 := eq_true q51))
            go_ret2
            exact ⟨by first | rfl | (simp [errW_none, errW_some] <;> rfl) | (simp [*, errW_none, errW_some] <;> rfl) | (simp [IntKind.wrap_i64, wrap64]; done), by repeat (first | (with_reducible first | exact HB.out | apply below_alloc | apply pw_below_drewN | apply below_drew1) | exact HB.out)⟩
           ·rw [if_neg c52] at H
            have c52b0 : ((bt a0 x6_1) == 35) = false := beq_eq_false_iff_ne.mpr c52
            have c52b1 : ((bt a0 x6_1) != 35) = true := bne_iff_ne.mpr c52
            replace H := Option.bind_eq_some_iff.mp H
            obtain ⟨t216, A530, H⟩ := H
            replace H : (if t216 = true then (some (4, x6_1)) else (assessorref02_token.l2 k1 a0 (wrap64 (x6_1 + 1)))) = some (r1, r2) := H
            have A53 := Aside0.mk A530
            clear A530
            by_cases c54 : t216 = true
            ·subst c54
             have H1 : (some (4, x6_1)) = some (r1, r2) := by rw [if_pos rfl] at H; exact H
             clear H
             have H := H1
             clear H1
             simp only [Option.some.injEq, Prod.mk.injEq] at H
             obtain ⟨rfl, rfl⟩ := H
             have p48 : 0 ≤ (x6_1 : Int) := of_decide_eq_true (by first | (with_reducible assumption) | assumption)
             have q48 : x6_1 < (a0.size : Int) := of_decide_eq_true (by first | (with_reducible assumption) | assumption)
             have hx48 := bt_at a0 x6_1
             replace p48 := eq_true p48
             replace q48 := eq_true q48
             go_wp2_with (first | (go_at_call 100; (with_reducible refine (assessorref02_blank.calls (bt a0 x6_1) false _ A49.out).mono ?_); rintro e w' ⟨rfl, ⟨nd, rfl⟩⟩; have p51 : 0 ≤ (x6_1 : Int) := of_decide_eq_true (by first | (with_reducible assumption) | assumption); have q51 : x6_1 < (a0.size : Int) := of_decide_eq_true (by first | (with_reducible assumption) | assumption); have hx51 := bt_at a0 x6_1; replace p51 := eq_true p51; replace q51 := eq_true q51) | (go_at_call 101; (with_reducible refine (assessorref02_begins.calls k1 a0 x6_1 true _ A53.out).mono ?_); rintro e w55 ⟨rfl, hb⟩; have n0_ := Aside0.mk (below_step (by repeat (first | (with_reducible first | exact HB.out | apply below_alloc | apply pw_below_drewN | apply below_drew1) | exact HB.out)) hb); clear HB; have HB := n0_; clear n0_; (try clear hb); (try clear hb2); (try clear hk); (try clear hi)))
             go_ret2
             exact ⟨by first | rfl | (simp [errW_none, errW_some] <;> rfl) | (simp [*, errW_none, errW_some] <;> rfl) | (simp [IntKind.wrap_i64, wrap64]; done), by repeat (first | (with_reducible first | exact HB.out | apply below_alloc | apply pw_below_drewN | apply below_drew1) | exact HB.out)⟩
            ·replace c54 := Bool.eq_false_iff.mpr c54
             subst c54
             have H1 : (assessorref02_token.l2 k1 a0 (wrap64 (x6_1 + 1))) = some (r1, r2) := by rw [if_neg (show ¬ (false = true) by decide)] at H; exact H
             clear H
             have H := H1
             clear H1
             have H' := Aside0.mk H
             clear H
             have p48 : 0 ≤ (x6_1 : Int) := of_decide_eq_true (by first | (with_reducible assumption) | assumption)
             have q48 : x6_1 < (a0.size : Int) := of_decide_eq_true (by first | (with_reducible assumption) | assumption)
             have hx48 := bt_at a0 x6_1
             replace p48 := eq_true p48
             replace q48 := eq_true q48
             go_wp2_with (first | (go_at_call 100; (with_reducible refine (assessorref02_blank.calls (bt a0 x6_1) false _ A49.out).mono ?_); rintro e w' ⟨rfl, ⟨nd, rfl⟩⟩; have p51 : 0 ≤ (x6_1 : Int) := of_decide_eq_true (by first | (with_reducible assumption) | assumption); have q51 : x6_1 < (a0.size : Int) := of_decide_eq_true (by first | (with_reducible assumption) | assumption); have hx51 := bt_at a0 x6_1; replace p51 := eq_true p51; replace q51 := eq_true q51) | (go_at_call 101; (with_reducible refine (assessorref02_begins.calls k1 a0 x6_1 false _ A53.out).mono ?_); rintro e w56 ⟨rfl, hb⟩; have n0_ := Aside0.mk (below_step (by repeat (first | (with_reducible first | exact HB.out | apply below_alloc | apply pw_below_drewN | apply below_drew1) | exact HB.out)) hb); clear HB; have HB := n0_; clear n0_; (try clear hb); (try clear hb2); (try clear hk); (try clear hi)))
             go_roundg k1
             case measure => have := HK1.out; omega
             case rel => exact ⟨(wrap64 (x6_1 + 1)), (by first | rfl | (simp; done) | (simp [*]; done)), H', ⟨by have := HK1.out; omega⟩, ⟨by repeat (first | (with_reducible first | exact HB.out | apply below_alloc | apply pw_below_drewN | apply below_drew1) | exact HB.out)⟩⟩
         ·rw [if_neg c47] at H
          exact absurd H (by simp)
        ·rw [if_neg c46] at H
         have c46b0 : decide (x6_1 < (a0.size : Int)) = false := decide_eq_false c46
         clear c46
         simp only [Option.some.injEq, Prod.mk.injEq] at H
         obtain ⟨rfl, rfl⟩ := H
         go_wp2
         go_ret2
         exact ⟨by first | rfl | (simp [errW_none, errW_some] <;> rfl) | (simp [*, errW_none, errW_some] <;> rfl) | (simp [IntKind.wrap_i64, wrap64]; done), by repeat (first | (with_reducible first | exact HB.out | apply below_alloc | apply pw_below_drewN | apply below_drew1) | exact HB.out)⟩
  ·rw [if_neg c4] at H
   exact absurd H (by simp)
 ·rw [if_neg c3] at H
  exact absurd H (by simp)

end Go.Proofs.Ytbheobngeocdfaa.PAll
