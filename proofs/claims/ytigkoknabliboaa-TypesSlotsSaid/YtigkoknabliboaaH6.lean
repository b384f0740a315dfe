/- The program's decimal digits, and slices.Clone of variables: what their calls come to. Digits: of a number that is not negative and fits int. -/
import Derived.Test.YtigkoknabliboaaPAllx0
import Derived.Test.YtigkoknabliboaaPAllxe27
import Derived.WalkSpells
import Derived.WalkLawsBesides
namespace Go.Proofs.Ytigkoknabliboaa.PAll
open Go.RowKit Go.Proofs.YtigkoknabliboaaW.PrintWords Go.Proofs.YtigkoknabliboaaW.PrintLast Go.Proofs.YtigkoknabliboaaW.PrintMore
set_option linter.unusedVariables false
set_option linter.unusedSimpArgs false

/-- the decimal digits of a number -/
def dec (n : Nat) : ByteArray := if n < 10 then ⟨#[UInt8.ofNat (48 + n)]⟩ else dec (n / 10) ++ ⟨#[UInt8.ofNat (48 + n % 10)]⟩
termination_by n
decreasing_by omega
def types_digits.f (a0 : Int) : Option ByteArray := if 0 ≤ a0 ∧ a0 ≤ 9223372036854775807 then some (dec a0.toNat) else none

set_option maxHeartbeats 1000000 in
theorem digits_small (n : Int) (w : World) (h0 : 0 ≤ n) (h1 : n < 10) : Calls Try.prog 35 #[.int .i64 n] w fun e w' => e = .returned (.string ⟨#[UInt8.ofNat (48 + n.toNat)]⟩) ∧ Drawn0 w w' := by
  go_enter Try.func35, Try.ntmps35
  go_wp2_with fail
  go_ret
  refine ⟨?_, Drawn0.refl _⟩
  have hn : n = 0 ∨ n = 1 ∨ n = 2 ∨ n = 3 ∨ n = 4 ∨ n = 5 ∨ n = 6 ∨ n = 7 ∨ n = 8 ∨ n = 9 := by omega
  rcases hn with rfl | rfl | rfl | rfl | rfl | rfl | rfl | rfl | rfl | rfl <;> rfl
theorem dec_size (m : Nat) : ∀ n, n < m → (dec n).size ≤ n + 1 := by
  induction m with
  | zero => intro n h; omega
  | succ m ih =>
    intro n h
    rw [dec]
    split
    · show 1 ≤ n + 1
      omega
    · rw [ByteArray.size_append]
      have := ih (n / 10) (by omega)
      show _ + 1 ≤ n + 1
      omega
set_option maxHeartbeats 1000000 in
theorem digits_calls (m : Nat) : ∀ (n : Int) (w : World), 0 ≤ n → n ≤ 9223372036854775807 → n.toNat < m → Calls Try.prog 35 #[.int .i64 n] w fun e w' => e = .returned (.string (dec n.toNat)) ∧ Drawn0 w w' := by
  induction m with
  | zero => intro n w _ _ h; omega
  | succ m ih =>
    intro n w h0 h1 hm
    by_cases hs : n < 10
    · refine (digits_small n w h0 hs).mono ?_
      rintro e w' ⟨rfl, hd⟩
      exact ⟨by rw [dec, if_pos (by omega)], hd⟩
    · have hd := dec_size (n.toNat / 10 + 1) (n.toNat / 10) (by omega)
      have hq : (n / 10).toNat = n.toNat / 10 := by omega
      have hm' : (n % 10).toNat = n.toNat % 10 := by omega
      have e1 : dec n.toNat = dec (n.toNat / 10) ++ ⟨#[UInt8.ofNat (48 + n.toNat % 10)]⟩ := by rw [dec, if_neg (by omega)]
      have HE := Aside0.mk (And.intro hq (And.intro hm' e1))
      have HI := Aside0.mk ih
      have hd2 : (dec (n.toNat / 10)).size + 1 ≤ 9223372036854775807 := by omega
      clear ih e1 hq hm' hd
      generalize hx : dec (n.toNat / 10) = x at hd2
      have HX := Aside0.mk hx
      clear hx
      go_enter Try.func35, Try.ntmps35
      go_wp2_with fail
      refine (HI.out _ _ (by omega) (by omega) (by omega)).mono ?_
      rintro e w1 ⟨rfl, ⟨m1, rfl⟩⟩
      rw [HE.out.1, HX.out]
      go_wp2_with fail
      refine (digits_small _ _ (by omega) (by omega)).mono ?_
      rintro e w1 ⟨rfl, ⟨m2, rfl⟩⟩
      rw [HE.out.2.1]
      go_wp2_with fail
      go_ret
      refine ⟨by rw [HE.out.2.2, HX.out, UInt8.ofNat_add]; rfl, ?_⟩
      exact ⟨m1 + m2, by simp⟩
theorem types_digits.calls (a0 : Int) (r : ByteArray) (w : World) (h : types_digits.f a0 = some r) : Calls Try.prog 35 #[.int .i64 a0] w fun e w' => e = .returned (.string r) ∧ Drawn0 w w' := by
  unfold types_digits.f at h
  split at h
  · rename_i hc
    obtain rfl := Option.some.inj h
    exact digits_calls (a0.toNat + 1) a0 w hc.1 hc.2 (by omega)
  · simp at h

/-- slices.Clone of variables: the same variables (of fewer than 2^40). -/
def api_Variable.f (l0 : List S39) : Option (List S39) := if l0.length ≤ 1099511627776 then some l0 else none
set_option maxHeartbeats 2000000 in
set_option maxRecDepth 100000 in
theorem api_Variable.calls (A0 : Option Addr) (c0 : Nat) (l0 : List S39) (r : List S39) (w : World) (hr0 : Kd.C k39 w A0 l0.length l0) (hc0 : l0.length ≤ c0) (h : api_Variable.f l0 = some r) :
    Calls Try.prog 37 #[.slice A0 l0.length c0] w fun e w' => ∃ v0_ : Value, e = .returned (v0_) ∧ Kd.R k39 39 w' w.heap.size (fun _ => True) v0_ r ∧ Below w.heap.size w w' := by
  unfold api_Variable.f at h
  split at h
  case isFalse => simp at h
  rename_i hl
  obtain rfl := Option.some.inj h
  clear h
  have HR0 := Aside0.mk hr0
  have HC0 := Aside0.mk hc0
  have qT : ∀ (w : World) (a : Option Addr) (n c n' c' : Nat), (binOp .eql 35 (.slice a n c) (.slice none n' c')).run Try.prog w = .ok (.bool a.isNone) w := fun w a n c n' c' => Lib.run_eql_slice_nil w _ _ a n c n' c' Try.underlying35
  cases A0 with
  | none =>
    have hz : l0 = [] := by
      cases l0 with
      | nil => rfl
      | cons x l =>
        obtain ⟨ad, e, _⟩ := hr0.2.2 (by simp)
        simp at e
    subst hz
    clear hr0 hc0
    go_enter Try.func37, Try.ntmps37
    go_wp2
    go_ret
    exact ⟨_, rfl, Kd.R_nil _ _ _ _ _, Below.refl _ _⟩
  | some ad =>
    clear hr0 hc0
    go_enter Try.func37, Try.ntmps37
    go_wp2_with (at_builtin; refine Kd.R_append_rows (w0 := w) (W := w.alloc (.cells #[] 39)) (Rr := k39.K w) k39 w.heap.size rfl (.tmp 5) (.tmp 6) 35 39 (.agg #[(.string ⟨#[]⟩), (.int .i64 0), (.int .i64 0), (.string ⟨#[]⟩), (.int .i64 0), (.int .i64 0), (.bool false), (.bool false)]) 72 rfl Try.underlying35 info39 rfl (by decide) (by decide) (.slice (some ⟨w.heap.size, 0, none⟩) 0 0) [] l0 (some ad) l0.length c0 (fun _ => True) (fun _ => False) rfl rfl ?cO ?cR ?cK ?cp ?cf ?cB ?cm ?cl ?_)
    case cO => exact ⟨fun _ _ => trivial, [], ⟨rfl, .inr ⟨w.heap.size, 0, #[], rfl, Nat.le_refl _, by simpa using heap_alloc_new w _, Nat.le_refl _, by simp [maxLen], rfl, rfl⟩⟩, Reps.none _ _⟩
    case cR => exact ReadsRow.imp_ HR0.out ((Below.refl _ _).alloc (Nat.le_refl _) _) (fun _ _ h => h)
    case cK => intro x cs h; obtain rfl := k39_open h; exact k39_mkM _ _ _ x
    case cp => intro k h; exact h.elim
    case cf => intro _ _; trivial
    case cB => exact (Below.refl _ _).alloc (Nat.le_refl _) _
    case cm => simp
    case cl => simp; omega
    intro v1 w1 hR hB _ _
    have HR := Aside0.mk hR
    have HB := Aside0.mk hB
    clear hR hB
    go_wp2
    go_ret
    exact ⟨_, rfl, HR.out, HB.out⟩
end Go.Proofs.Ytigkoknabliboaa.PAll
