/- The program's types.Valid, types.Same and types.Member: what their calls come to. Under no condition. -/
import Derived.Test.YtigkoknabliboaaH3
import Derived.Test.YtigkoknabliboaaPAllxf12
namespace Go.Proofs.Ytigkoknabliboaa.PAll
open Go.RowKit Go.Proofs.YtigkoknabliboaaW.PrintWords Go.Proofs.YtigkoknabliboaaW.PrintLast Go.Proofs.YtigkoknabliboaaW.PrintMore
set_option linter.unusedVariables false
set_option linter.unusedSimpArgs false

set_option maxHeartbeats 2000000 in
theorem shapes5_calls (a0_0 a0_1 : Int) (a0_2 : ByteArray) (A1 : Option Addr) (c1 : Nat) (l1 : List S63) (w : World) (hr1 : Kd.C k63 w A1 l1.length l1) (hc1 : l1.length ≤ c1) :
    Calls Try.prog 65 #[.agg #[.int .i64 a0_0, .int .i64 a0_1, .string a0_2], .slice A1 l1.length c1] w fun e w' => e = .returned (.bool (decide (a0_1 = 0) && decide (0 ≤ recIdx l1 a0_2))) ∧ Below w.heap.size w w' := by
  have HR := Aside0.mk hr1
  have HC := Aside0.mk hc1
  clear hr1 hc1
  by_cases hi : recIdx l1 a0_2 < 0
  · have hr : decide (0 ≤ recIdx l1 a0_2) = false := decide_eq_false (by omega)
    rw [hr, Bool.and_false]
    clear hr
    go_enter Try.func65, Try.ntmps65
    go_wp2_with fail
    refine (record_none A1 c1 l1 a0_2 _ (Kd.C_below HR.out ((Below.refl _ _).alloc (Nat.le_refl _) _)) HC.out hi).mono ?_
    rintro e w1 ⟨rfl, hb⟩
    obtain ⟨hc, hf⟩ := bcell hb
    have hz : w.heap.size < w1.heap.size := by have := hb.size; simp at this; omega
    have h1 : Below w.heap.size w w1 := ((Below.refl _ _).alloc (Nat.le_refl _) _).trans (hb.mono (by simp))
    have HB := Aside0.mk h1
    clear hb h1
    by_cases h0 : a0_1 = 0
    · have e0 : (a0_1 == 0) = true := beq_iff_eq.2 h0
      have H0 := Aside0.mk h0
      clear h0
      go_wp2
      go_ret
      exact ⟨rfl, HB.out.alloc (Nat.le_of_lt hz) _⟩
    · have e0 : (a0_1 == 0) = false := beq_eq_false_iff_ne.2 h0
      clear h0
      go_wp2
      go_ret
      exact ⟨rfl, HB.out.alloc (Nat.le_of_lt hz) _⟩
  · obtain ⟨k, hk, hik, _, _⟩ := idx_some _ _ (Int.not_lt.1 hi)
    have hr : decide (0 ≤ recIdx l1 a0_2) = true := decide_eq_true (by omega)
    rw [hr, Bool.and_true]
    clear hr hi
    have HI := Aside0.mk hik
    clear hik
    go_enter Try.func65, Try.ntmps65
    go_wp2_with fail
    refine (record_some A1 c1 l1 a0_2 k hk _ (Kd.C_below HR.out ((Below.refl _ _).alloc (Nat.le_refl _) _)) HC.out HI.out).mono ?_
    rintro e w1 ⟨A, c, rfl, hl, hk76, hb⟩
    obtain ⟨hc, hf⟩ := bcell hb
    have hz : w.heap.size < w1.heap.size := by have := hb.size; simp at this; omega
    have h1 : Below w.heap.size w w1 := ((Below.refl _ _).alloc (Nat.le_refl _) _).trans (hb.mono (by simp))
    have HB := Aside0.mk h1
    clear hb h1 hl hk76
    by_cases h0 : a0_1 = 0
    · have e0 : (a0_1 == 0) = true := beq_iff_eq.2 h0
      have HD := Aside0.mk (decide_eq_true h0)
      clear h0
      go_wp2
      go_ret
      exact ⟨by rw [HD.out]; rfl, HB.out.alloc (Nat.le_of_lt hz) _⟩
    · have e0 : (a0_1 == 0) = false := beq_eq_false_iff_ne.2 h0
      have HD := Aside0.mk (decide_eq_false h0)
      clear h0
      go_wp2
      go_ret
      exact ⟨by rw [HD.out]; rfl, HB.out.alloc (Nat.le_of_lt hz) _⟩

/-- types.Valid: does a type exist? -/
def validT (k n : Int) (s : ByteArray) (l : List S63) : Bool :=
  if k = 1 ∨ k = 2 then decide (n = 0) && (s.toList == []) else if k = 3 then decide (1 ≤ n) && (decide (n ≤ 8) && (s.toList == [])) else if k = 4 then decide (n = 0) && decide (0 ≤ recIdx l s) else false
def types_Valid.f (a0_0 a0_1 : Int) (a0_2 : ByteArray) (l1 : List S63) : Option Bool := some (validT a0_0 a0_1 a0_2 l1)
theorem find_none {k : Int} (h1 : k ≠ 1) (h2 : k ≠ 2) (h3 : k ≠ 3) (h4 : k ≠ 4) : Instr.findNow (.int .i64) (.int .i64 k) shapeEs.toList 0 = some none := by
  simp [shapeEs, Instr.findNow, Instr.sameNow, beq_eq_false_iff_ne.2 h1, beq_eq_false_iff_ne.2 h2, beq_eq_false_iff_ne.2 h3, beq_eq_false_iff_ne.2 h4]
theorem eg60 : ∀ args w, (callFunc 60 args).run Try.prog w = .ok (.enter 60 args) w := enters_of Try.func60 (by kernel_rfl) rfl
theorem eg62 : ∀ args w, (callFunc 62 args).run Try.prog w = .ok (.enter 62 args) w := enters_of Try.func62 (by kernel_rfl) rfl
theorem eg65 : ∀ args w, (callFunc 65 args).run Try.prog w = .ok (.enter 65 args) w := enters_of Try.func65 (by kernel_rfl) rfl
theorem types_Valid.calls (a0_0 : Int) (a0_1 : Int) (a0_2 : ByteArray) (A1 : Option Addr) (c1 : Nat) (l1 : List (S63)) (r : Bool) (w : World) (hr1 : Kd.C k63 w A1 l1.length l1) (hc1 : l1.length ≤ c1) (h : types_Valid.f a0_0 a0_1 a0_2 l1 = some r) :
    Calls Try.prog 10 #[.agg #[.int .i64 a0_0, .int .i64 a0_1, .string a0_2], .slice A1 l1.length c1] w fun e w' => e = .returned (.bool r) ∧ Below w.heap.size w w' := by
  obtain rfl := Option.some.inj h
  clear h
  unfold validT
  by_cases h1 : a0_0 = 1
  · subst h1
    rw [if_pos (.inl rfl)]
    exact valid_hit 1 a0_1 a0_2 _ 0 60 61 _ w rfl eg60 fun W hW => types_shapes_1.calls 1 a0_1 a0_2 A1 c1 l1 _ W (Kd.C_below hr1 hW) hc1 (by unfold types_shapes_1.f; by_cases h : a0_1 = 0 <;> simp [h])
  by_cases h2 : a0_0 = 2
  · subst h2
    rw [if_pos (.inr rfl)]
    exact valid_hit 2 a0_1 a0_2 _ 1 60 61 _ w rfl eg60 fun W hW => types_shapes_1.calls 2 a0_1 a0_2 A1 c1 l1 _ W (Kd.C_below hr1 hW) hc1 (by unfold types_shapes_1.f; by_cases h : a0_1 = 0 <;> simp [h])
  rw [if_neg (by omega)]
  by_cases h3 : a0_0 = 3
  · subst h3
    rw [if_pos rfl]
    exact valid_hit 3 a0_1 a0_2 _ 2 62 63 _ w rfl eg62 fun W hW => types_shapes_3.calls 3 a0_1 a0_2 A1 c1 l1 _ W (Kd.C_below hr1 hW) hc1 (by unfold types_shapes_3.f; by_cases h : 1 ≤ a0_1 <;> by_cases h' : a0_1 ≤ 8 <;> simp [h, h'])
  rw [if_neg h3]
  by_cases h4 : a0_0 = 4
  · subst h4
    rw [if_pos rfl]
    exact valid_hit 4 a0_1 a0_2 _ 3 65 66 _ w rfl eg65 fun W hW => shapes5_calls 4 a0_1 a0_2 A1 c1 l1 W (Kd.C_below hr1 hW) hc1
  rw [if_neg h4]
  exact valid_miss a0_0 a0_1 a0_2 _ w (find_none h1 h2 h3 h4)
end Go.Proofs.Ytigkoknabliboaa.PAll
