/- The program's Needed: what its calls come to. Under no condition. -/
import Derived.Test.YtdailoccmjeceaaH6a
namespace Go.Proofs.Ytdailoccmjeceaa.PAll
open Go.RowKit Go.Lib Go.Sort Go.Proofs.YtdailoccmjeceaaW.PrintWords Go.Proofs.YtdailoccmjeceaaW.PrintLast Go.Proofs.YtdailoccmjeceaaW.PrintMore
set_option linter.unusedVariables false
set_option linter.unusedSimpArgs false

set_option maxHeartbeats 8000000 in
set_option maxRecDepth 100000 in
theorem attempts_Needed.calls (a0_0 a0_1 a0_2 a0_3 : Int) (A1 : Option Addr) (c1 : Nat) (l1 : List S38) (a2 : Int) (r1 : Int) (r2 : Bool) (w : World) (hr1 : Kd.C k38 w A1 l1.length l1) (hc1 : l1.length ≤ c1) (h : attempts_Needed.f a0_0 a0_1 a0_2 a0_3 l1 a2 = some (r1, r2)) :
    Calls Try.prog 13 #[.agg #[.int .i64 a0_0, .int .i64 a0_1, .int .i64 a0_2, .int .i64 a0_3], .slice A1 l1.length c1, .int .i64 a2] w fun e w' => e = .returned (.tuple #[.int .i64 r1, .bool r2]) ∧ RowKit.Below w.heap.size w w' := by
  have hf := Option.some.inj h
  have HF := Aside0.mk hf
  clear hf h
  have hu23 := Try.underlying23
  have HR := Aside0.mk hr1
  have HC := Aside0.mk hc1
  clear hr1 hc1
  obtain ⟨W0, hW0⟩ : ∃ W0, W0 = (((w.alloc (.cells #[.int .i64 a0_0, .int .i64 a0_1, .int .i64 a0_2, .int .i64 a0_3] 23)).alloc (.cells #[.slice A1 l1.length c1] 24)).alloc (.cells #[.int .i64 a2] 3)) := ⟨_, rfl⟩
  have hb0 : RowKit.Below w.heap.size w W0 := by rw [hW0]; exact (((Below.refl _ _).alloc (Nat.le_refl _) _).alloc (by simp) _).alloc (by simp; omega) _
  have hz0 : W0.heap.size = w.heap.size + 3 := by rw [hW0]; simp
  have hkr : W0.heap[w.heap.size]? = some (.cells #[.int .i64 a0_0, .int .i64 a0_1, .int .i64 a0_2, .int .i64 a0_3] 23 (0, 0)) := by
    rw [hW0, heap_alloc_old _ _ (by simp; omega), heap_alloc_old _ _ (by simp)]; exact heap_alloc_new w _
  have hkl : W0.heap[w.heap.size + 1]? = some (.cells #[.slice A1 l1.length c1] 24 (0, 0)) := by
    rw [hW0, heap_alloc_old _ _ (by simp)]
    have := heap_alloc_new (w.alloc (.cells #[.int .i64 a0_0, .int .i64 a0_1, .int .i64 a0_2, .int .i64 a0_3] 23)) (.cells #[.slice A1 l1.length c1] 24)
    simpa using this
  have hkg : W0.heap[w.heap.size + 2]? = some (.cells #[.int .i64 a2] 3 (0, 0)) := by
    rw [hW0]
    have := heap_alloc_new ((w.alloc (.cells #[.int .i64 a0_0, .int .i64 a0_1, .int .i64 a0_2, .int .i64 a0_3] 23)).alloc (.cells #[.slice A1 l1.length c1] 24)) (.cells #[.int .i64 a2] 3)
    simpa using this
  have HV := Aside0.mk (attempts_Valid.calls 20 a0_0 a0_1 a0_2 a0_3 A1 c1 l1 _ W0 (Kd.C_below HR.out hb0) HC.out (Valid_f a0_0 a0_1 a0_2 a0_3 l1 20 (Nat.le_refl _)))
  have HZ0 := Aside0.mk hz0
  have HB0 := Aside0.mk hb0
  have HS : Aside0 (∀ w', RowKit.Below W0.heap.size W0 w' → (w'.heap[w.heap.size]? = some (.cells #[.int .i64 a0_0, .int .i64 a0_1, .int .i64 a0_2, .int .i64 a0_3] 23 (0, 0))) ∧ (w'.heap[w.heap.size + 1]? = some (.cells #[.slice A1 l1.length c1] 24 (0, 0))) ∧ (w'.heap[w.heap.size + 2]? = some (.cells #[.int .i64 a2] 3 (0, 0))) ∧ Kd.C k38 w' A1 l1.length l1 ∧ RowKit.Below w.heap.size w w') := ⟨fun w' hb =>
    ⟨(hb.block _ (by omega)).trans hkr, (hb.block _ (by omega)).trans hkl, (hb.block _ (by omega)).trans hkg, Kd.C_below (Kd.C_below HR.out hb0) hb, hb0.trans (hb.mono (by omega))⟩⟩
  clear hkr hkl hkg hb0 hz0
  cases hv : validA a0_0 a0_1 a0_2 a0_3 l1 with
  | false =>
    have HF2 : Aside0 ((r1, r2) = ((0 : Int), false)) := ⟨by rw [← HF.out]; unfold neededA; rw [if_neg (by rw [hv]; simp)]⟩
    rw [hv] at HV
    clear hv HF
    obtain ⟨rfl, rfl⟩ := Prod.mk.inj HF2.out
    go_enter Try.func13, Try.ntmps13
    go_wp2_with fail
    rw [← hW0]
    refine HV.out.mono ?_
    rintro e w1 ⟨rfl, hb⟩
    have HB1 := Aside0.mk (HS.out w1 hb).2.2.2.2
    clear hb
    go_wp2_with fail
    go_ret2
    exact ⟨rfl, HB1.out⟩
  | true =>
    have hlen := (validA_len hv).2.1
    have HLen := Aside0.mk hlen
    have HIR := Aside0.mk (validA_inR hv)
    have HVt := Aside0.mk hv
    rw [hv] at HV
    by_cases hm : (l1.length : Int) = a0_1
    · have HF2 : Aside0 ((r1, r2) = ((0 : Int), false)) := ⟨by rw [← HF.out]; unfold neededA; rw [if_neg (by intro h; exact h.2.1 hm)]⟩
      obtain ⟨rfl, rfl⟩ := Prod.mk.inj HF2.out
      have hm1 : ((l1.length : Int) == a0_1) = true := beq_iff_eq.2 hm
      clear hv HF hm hlen
      go_enter Try.func13, Try.ntmps13
      go_wp2_with fail
      rw [← hW0]
      refine HV.out.mono ?_
      rintro e w1 ⟨rfl, hb⟩
      have HB1 := Aside0.mk (HS.out w1 hb).2.2.2.2
      have hx1 : w1.cell? ⟨w.heap.size, 1, none⟩ = some (.int .i64 a0_1) := (blk_cell (HS.out w1 hb).1 1).trans rfl
      have hy0 : w1.cell? ⟨w.heap.size + 1, 0, none⟩ = some (.slice A1 l1.length c1) := (blk_cell (HS.out w1 hb).2.1 0).trans rfl
      clear hb
      go_wp2_with fail
      go_ret2
      exact ⟨rfl, HB1.out⟩
    · have HM := Aside0.mk hm
      have hm1 : ((l1.length : Int) == a0_1) = false := beq_eq_false_iff_ne.2 hm
      have HE : Aside0 (∀ n, 0 ≤ n → n ≤ 100000000 → ∀ w', RowKit.Below W0.heap.size W0 w' → Calls Try.prog 29 #[.int .i64 n, .pointer (some ⟨w.heap.size + 1, 0, none⟩), .pointer (some ⟨w.heap.size, 0, none⟩), .pointer (some ⟨w.heap.size + 2, 0, none⟩)] w' fun e w'' => e = .returned (.bool (enoughA a0_0 a0_3 l1 a2 n)) ∧ RowKit.Below W0.heap.size W0 w'') := ⟨fun n h0 h1 w' hb => by
        obtain ⟨e1, e2, e3, e4, _⟩ := HS.out w' hb
        refine (closure29 a0_0 a0_1 a0_2 a0_3 a2 n A1 c1 l1 (w.heap.size + 1) w.heap.size (w.heap.size + 2) w' HLen.out HIR.out h0 h1 HC.out e2 e1 e3 e4).mono ?_
        rintro e w'' ⟨he, hb2⟩
        exact ⟨he, trans2 hb2 hb⟩⟩
      clear hv hm hlen HIR
      go_enter Try.func13, Try.ntmps13
      go_wp2_with fail
      rw [← hW0]
      refine HV.out.mono ?_
      rintro e w1 ⟨rfl, hb⟩
      have hx1 : w1.cell? ⟨w.heap.size, 1, none⟩ = some (.int .i64 a0_1) := (blk_cell (HS.out w1 hb).1 1).trans rfl
      have hy0 : w1.cell? ⟨w.heap.size + 1, 0, none⟩ = some (.slice A1 l1.length c1) := (blk_cell (HS.out w1 hb).2.1 0).trans rfl
      have HB := Aside0.mk hb
      clear hb HV
      have HE1 := Aside0.mk (HE.out 100000000 (by decide) (by decide) w1 HB.out)
      cases he : enoughA a0_0 a0_3 l1 a2 100000000 with
      | false =>
        rw [he] at HE1
        have HF2 : Aside0 ((r1, r2) = ((0 : Int), false)) := ⟨by rw [← HF.out]; unfold neededA; rw [if_neg (by intro h; rw [he] at h; exact absurd h.2.2 (by decide))]⟩
        obtain ⟨rfl, rfl⟩ := Prod.mk.inj HF2.out
        clear he HF
        go_wp2_with fail
        refine HE1.out.mono ?_
        rintro e w2 ⟨rfl, hb⟩
        have HB2 := Aside0.mk (HS.out w2 hb).2.2.2.2
        clear hb
        go_wp2_with fail
        go_ret2
        exact ⟨rfl, HB2.out⟩
      | true =>
        rw [he] at HE1
        have HF2 : Aside0 ((r1, r2) = (halves (enoughA a0_0 a0_3 l1 a2) 100000001 0 100000000, true)) := ⟨by rw [← HF.out]; unfold neededA; rw [if_pos ⟨HVt.out, HM.out, he⟩]⟩
        obtain ⟨hr1, rfl⟩ := Prod.mk.inj HF2.out
        have HR1 := Aside0.mk hr1
        clear he HF HF2 hr1
        go_wp2_with fail
        refine HE1.out.mono ?_
        rintro e w2 ⟨rfl, hb⟩
        have HB2 := Aside0.mk hb
        clear hb hx1 hy0
        go_wp2_with fail
        go_loopw [9, 10] (fun s9 s10 wr => ∃ (lo hi : Int) (fu : Nat), 0 ≤ lo ∧ lo ≤ hi ∧ hi ≤ 100000000 ∧ hi - lo < fu ∧ s9 = .int .i64 lo ∧ s10 = .int .i64 hi ∧ Aside0 (r1 = halves (enoughA a0_0 a0_3 l1 a2) fu lo hi) ∧ Aside0 (RowKit.Below W0.heap.size W0 wr)) (fun s9 s10 _ => (intOf s10 - intOf s9).toNat)
        case atStart => exact ⟨0, 100000000, 100000001, by omega, by omega, by omega, by omega, rfl, rfl, HR1, HB2⟩
        case round =>
          clear HR1 HB2
          obtain ⟨lo, hi, fu, h1, h2, h3, h4, rfl, rfl, HR1, HB2⟩ := hrel
          obtain ⟨fu, rfl⟩ : ∃ k, fu = k + 1 := ⟨fu - 1, by omega⟩
          by_cases hlh : lo < hi
          · obtain ⟨M, hM⟩ : ∃ M, M = (lo + hi) / 2 := ⟨_, rfl⟩
            have hw1 : IntKind.i64.wrap (lo + hi) = lo + hi := by rw [Go.IntWalk.i64_in _ (by omega)]
            have hw2 : Int.tdiv (lo + hi) 2 = M := by rw [Int.tdiv_eq_ediv_of_nonneg (by omega), hM]
            have hw3 : IntKind.i64.wrap M = M := by rw [Go.IntWalk.i64_in _ (by omega)]
            have hw4 : IntKind.i64.wrap (M + 1) = M + 1 := by rw [Go.IntWalk.i64_in _ (by omega)]
            have HEM := Aside0.mk (HE.out M (by omega) (by omega) wr HB2.out)
            have hM1 : lo ≤ M := by omega
            have hM2 : M < hi := by omega
            have HR2 : Aside0 (r1 = if enoughA a0_0 a0_3 l1 a2 M = true then halves (enoughA a0_0 a0_3 l1 a2) fu lo M else halves (enoughA a0_0 a0_3 l1 a2) fu (M + 1) hi) := ⟨by rw [HR1.out, halves, if_pos hlh, ← hM]⟩
            clear hM HR1
            cases he : enoughA a0_0 a0_3 l1 a2 M with
            | false =>
              rw [he] at HEM
              rw [he, if_neg (by decide)] at HR2
              clear he
              go_wp2_with fail
              refine HEM.out.mono ?_
              rintro e w3 ⟨rfl, hb⟩
              have HB3 := Aside0.mk hb
              clear hb
              go_wp2_with fail
              go_roundw
              case rel => exact ⟨M + 1, hi, fu, by omega, by omega, by omega, by omega, rfl, rfl, HR2, HB3⟩
              case measure => simp [intOf]; omega
            | true =>
              rw [he] at HEM
              rw [he, if_pos rfl] at HR2
              clear he
              go_wp2_with fail
              refine HEM.out.mono ?_
              rintro e w3 ⟨rfl, hb⟩
              have HB3 := Aside0.mk hb
              clear hb
              go_wp2_with fail
              go_roundw
              case rel => exact ⟨lo, M, fu, by omega, by omega, by omega, by omega, rfl, rfl, HR2, HB3⟩
              case measure => simp [intOf]; omega
          · have HR2 : Aside0 (r1 = lo) := ⟨by rw [HR1.out, halves, if_neg hlh]⟩
            go_wp2_with fail
            go_ret2
            exact ⟨by rw [HR2.out]; rfl, (HS.out _ HB2.out).2.2.2.2⟩
end Go.Proofs.Ytdailoccmjeceaa.PAll
