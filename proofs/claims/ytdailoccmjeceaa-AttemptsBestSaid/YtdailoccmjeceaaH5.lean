/- The program's Counting: what its calls come to. Under no condition. -/
import Derived.Test.YtdailoccmjeceaaM3
import Derived.Sort.OwnSortedInts
import Derived.Shelf.Slices.In.SortNone
namespace Go.Proofs.Ytdailoccmjeceaa.PAll
open Go.RowKit Go.Lib Go.Sort Go.Proofs.YtdailoccmjeceaaW.PrintWords Go.Proofs.YtdailoccmjeceaaW.PrintLast Go.Proofs.YtdailoccmjeceaaW.PrintMore
set_option linter.unusedVariables false
set_option linter.unusedSimpArgs false

theorem sort33 (blk off cap : Nat) (zs : List Int) (w : World) (hH : Holds (Value.int .i64) w blk off zs.toArray) (hblk : blk < w.heap.size) (hsz : zs.length < 4611686018427387904) :
    Calls Try.prog 33 #[.slice (some ⟨blk, off, none⟩) zs.length cap] w fun e w' =>
      e = .returned (.tuple #[]) ∧ ∃ n os, w' = grow (putRow (Value.int .i64) (Sort.ahead w n) blk off (zs.mergeSort fun x y => decide (x ≤ y)).toArray) os := Any.slices_Sort_int Try.sortInts blk off cap zs w hH hblk hsz
theorem sort33n (p : Option Addr) (cap : Nat) (w : World) : Calls Try.prog 33 #[.slice p 0 cap] w fun e w' => e = .returned (.tuple #[]) ∧ w' = w := Any.slices_Sort_int_none Try.sortInts p cap w

/-- a row of ints of the call's own, sorted -/
theorem sortR {w : World} {base : Nat} {v : Value} {xs : List Int} (h : Kd.R (Kd.int .i64) 3 w base (fun _ => True) v xs) (hl : xs.length < 4611686018427387904) :
    Calls Try.prog 33 #[v] w fun e w' => e = .returned (.tuple #[]) ∧ Kd.R (Kd.int .i64) 3 w' base (fun _ => True) v (xs.mergeSort fun x y => decide (x ≤ y)) ∧ (∀ w0, Below base w0 w → base ≤ w.heap.size → Below base w0 w') := by
  have hown := Kd.own_of_R h
  rcases hown.2 with ⟨rfl, h0⟩ | ⟨g, cap, cur, rfl, hb, hg, hn, hcap, hsz, ht⟩
  · have hx : xs = [] := List.eq_nil_of_length_eq_zero h0
    subst hx
    refine (sort33n none 0 w).mono ?_
    rintro e w' ⟨rfl, rfl⟩
    exact ⟨rfl, by simpa using h, fun _ hb _ => hb⟩
  · rw [Nat.mul_one] at ht
    refine (sort33 g 0 cap xs w (holds_of_blockI hg ht) (Array.getElem?_eq_some_iff.1 hg).1 hl).mono ?_
    rintro e w' ⟨rfl, n, os, rfl⟩
    refine ⟨rfl, ?_, fun w0 hb0 hs => hb0.grown (grownBy_sortedI _) hs (by intro k hk; cases hk; exact hb)⟩
    have h1 := ownsRow_sortedI (w := w) (base := base) (g := g) (cap := cap) (n := n) (os := os) (ss := xs) (ts := xs.mergeSort fun x y => decide (x ≤ y)) (by simp) hb hg hn hcap hsz
    have h2 := Kd.R_of_own (enc := Value.int .i64) (h1 := fun _ => rfl) (ok := fun _ => True) (xs := xs.mergeSort fun x y => decide (x ≤ y)) (by simpa [encs] using h1) (fun _ _ => trivial)
    exact h2
set_option maxHeartbeats 4000000 in
set_option maxRecDepth 100000 in
theorem attempts_Counting.calls (a0_0 a0_1 a0_2 a0_3 : Int) (A1 : Option Addr) (c1 : Nat) (l1 : List S38) (r : List Int) (w : World) (hr1 : Kd.C k38 w A1 l1.length l1) (hc1 : l1.length ≤ c1) (h : attempts_Counting.f a0_0 a0_1 a0_2 a0_3 l1 = some r) :
    Calls Try.prog 16 #[.agg #[.int .i64 a0_0, .int .i64 a0_1, .int .i64 a0_2, .int .i64 a0_3], .slice A1 l1.length c1] w fun e w' => ∃ v0_ : Value, e = .returned (v0_) ∧ Kd.R (Kd.int .i64) 3 w' w.heap.size (fun _ => True) v0_ r ∧ Below w.heap.size w w' := by
  unfold attempts_Counting.f at h
  obtain rfl := Option.some.inj h
  clear h
  have hu23 := Try.underlying23
  have hu38 := Try.underlying38
  have HR := Aside0.mk hr1
  have HC := Aside0.mk hc1
  clear hr1 hc1
  obtain ⟨W0, hW0⟩ : ∃ W0, W0 = (w.alloc (.cells #[.int .i64 a0_0, .int .i64 a0_1, .int .i64 a0_2, .int .i64 a0_3] 23)) := ⟨_, rfl⟩
  have hb0 : Below w.heap.size w W0 := by rw [hW0]; exact (Below.refl _ _).alloc (Nat.le_refl _) _
  have hz0 : W0.heap.size = w.heap.size + 1 := by rw [hW0]; simp
  have HV := Aside0.mk (attempts_Valid.calls 20 a0_0 a0_1 a0_2 a0_3 A1 c1 l1 _ W0 (Kd.C_below HR.out hb0) HC.out (Valid_f a0_0 a0_1 a0_2 a0_3 l1 20 (Nat.le_refl _)))
  have hk0 : W0.heap[w.heap.size]? = some (.cells #[.int .i64 a0_0, .int .i64 a0_1, .int .i64 a0_2, .int .i64 a0_3] 23 (0, 0)) := by rw [hW0]; exact heap_alloc_new w _
  have HK0 := Aside0.mk hk0
  have HB0 := Aside0.mk hb0
  have HZ0 := Aside0.mk hz0
  subst hW0
  clear hk0 hb0 hz0
  unfold countA
  cases hv : validA a0_0 a0_1 a0_2 a0_3 l1 with
  | false =>
    rw [hv] at HV
    rw [if_neg (by decide)]
    clear hv
    go_enter Try.func16, Try.ntmps16
    go_wp2_with fail
    refine HV.out.mono ?_
    rintro e w1 ⟨rfl, hb⟩
    have HB := Aside0.mk (HB0.out.trans (hb.mono (by have := HZ0.out; omega)))
    clear hb
    go_wp2_with fail
    go_ret
    exact ⟨_, rfl, Kd.R_nil _ _ _ _ _, HB.out⟩
  | true =>
    have hlen := (validA_len hv).2.1
    have HLen := Aside0.mk hlen
    rw [hv] at HV
    rw [if_pos rfl]
    clear hv hlen
    go_enter Try.func16, Try.ntmps16
    go_wp2_with fail
    refine HV.out.mono ?_
    rintro e w1 ⟨rfl, hb⟩
    have hz1 : w.heap.size < w1.heap.size := by have := hb.size; have := HZ0.out; omega
    have hk1 : w1.heap[w.heap.size]? = some (.cells #[.int .i64 a0_0, .int .i64 a0_1, .int .i64 a0_2, .int .i64 a0_3] 23 (0, 0)) := (hb.block _ (by have := HZ0.out; omega)).trans HK0.out
    have hx0 : w1.cell? ⟨w.heap.size, 0, none⟩ = some (.int .i64 a0_0) := (blk_cell hk1 0).trans rfl
    have hx1 : w1.cell? ⟨w.heap.size, 1, none⟩ = some (.int .i64 a0_1) := (blk_cell hk1 1).trans rfl
    have hx2 : w1.cell? ⟨w.heap.size, 2, none⟩ = some (.int .i64 a0_2) := (blk_cell hk1 2).trans rfl
    have hx3 : w1.cell? ⟨w.heap.size, 3, none⟩ = some (.int .i64 a0_3) := (blk_cell hk1 3).trans rfl
    have HB := Aside0.mk (HB0.out.trans (hb.mono (by have := HZ0.out; omega)))
    have HCH := Aside0.mk (attempts_chosen.calls a0_0 a0_1 a0_2 a0_3 A1 c1 l1 (chosenL a0_0 a0_3 l1) w1 (Kd.C_below HR.out HB.out) HC.out (by unfold attempts_chosen.f; rw [if_pos (by have := HLen.out; omega)]))
    clear hb hk1 hz1 HV HB0 HK0
    go_wp2_with fail
    refine HCH.out.mono ?_
    rintro e w2 ⟨v2, rfl, hR2, hb2⟩
    have hcl := chosenL_len a0_0 a0_3 l1
    obtain ⟨c, hc⟩ : ∃ c, c = chosenL a0_0 a0_3 l1 := ⟨_, rfl⟩
    rw [← hc] at hR2 hcl
    have HCe := Aside0.mk hc
    clear hc
    obtain ⟨A2, c2, rfl, hc2, hC2⟩ := Kd.R_reads hR2
    have HB2 : Aside0 (Below w.heap.size w w2) := ⟨HB.out.trans (hb2.mono HB.out.size)⟩
    have HC2 := Aside0.mk hC2
    have HCL : Aside0 (c.length ≤ 16) := ⟨by have := HLen.out; omega⟩
    clear hR2 hb2 hC2 HCH hx0 hx1 hx2 hx3 hcl hc2
    go_wp2_with fail
    go_loopw [5, 16] (fun s5 s16 wr => ∃ J : Int, 0 ≤ J ∧ J ≤ c.length ∧ s16 = .int .i64 J ∧ Aside0 (Kd.R (Kd.int .i64) 3 wr w2.heap.size (fun _ => True) s5 ((c.take J.toNat).map S38.f0)) ∧ Aside0 (Below w2.heap.size w2 wr)) (fun _ s16 _ => c.length - (intOf s16).toNat)
    case atStart => exact ⟨0, Int.le_refl _, by omega, rfl, ⟨Kd.R_nil _ _ _ _ _⟩, ⟨Below.refl _ _⟩⟩
    case round =>
      obtain ⟨J, hJ0, hJ1, rfl, HO, HW⟩ := hrel
      by_cases hjz : J < (c.length : Int)
      · have hjw : IntKind.i64.wrap (J + 1) = J + 1 := by have := HCL.out; rw [Go.IntWalk.i64_in _ (by omega)]
        obtain ⟨ad, e0, hx0, hx1, hx2⟩ := at_T38 (Kd.C_below HC2.out HW.out) J hJ0 hjz
        cases e0
        obtain ⟨X, hX⟩ : ∃ X, X = rd_T38 c J := ⟨_, rfl⟩
        rw [← hX] at hx0 hx1 hx2
        have HT : Aside0 ((c.take (J + 1).toNat).map S38.f0 = (c.take J.toNat).map S38.f0 ++ [X.f0]) := ⟨by
          have h1 : J.toNat < c.length := by omega
          have h2 : (J + 1).toNat = J.toNat + 1 := by omega
          have h3 : X = c[J.toNat] := by rw [hX]; simp [rd_T38, List.getD_eq_getElem?_getD, h1]
          rw [h2, List.take_succ_eq_append_getElem h1, List.map_append, h3]
          rfl⟩
        have HLJ : Aside0 (((c.take J.toNat).map S38.f0).length ≤ 16) := ⟨by have := HCL.out; simp; omega⟩
        have HBa : Aside0 (Below w2.heap.size w2 (wr.alloc (.cells #[.int .i64 X.f0, .int .i64 X.f1, .int .i64 X.f2] 38))) := ⟨HW.out.alloc HW.out.size _⟩
        have HOa : Aside0 (Kd.R (Kd.int .i64) 3 (wr.alloc (.cells #[.int .i64 X.f0, .int .i64 X.f1, .int .i64 X.f2] 38)) w2.heap.size (fun _ => True) u5 ((c.take J.toNat).map S38.f0)) := ⟨Kd.R_alloc HO.out _⟩
        clear hX
        go_upto_region 7 with fail
        have hy0 : (wr.alloc (.cells #[.int .i64 X.f0, .int .i64 X.f1, .int .i64 X.f2] 38)).cell? ⟨wr.heap.size, 0, none⟩ = some (.int .i64 X.f0) := by simp
        generalize (wr.alloc (.cells #[.int .i64 X.f0, .int .i64 X.f1, .int .i64 X.f2] 38)) = w5 at hy0 HBa HOa ⊢
        go_wp2_with ((with_reducible refine gate_builtin (b := .append) (xs := #[.tmp 20, .tmp 23]) rfl ?_); at_builtin; refine Kd.R_append (Kd.int .i64) (w0 := w2) w2.heap.size rfl (.tmp 20) (.tmp 23) 32 3 (.int .i64 0) 8 rfl Try.underlying32 info3 rfl (by decide) (by omega) u5 ((c.take J.toNat).map S38.f0) X.f0 [.int .i64 X.f0] (fun _ => True) (fun _ => False) rfl rfl ?aP (fun _ hk => hk.elim) ?aF ?aO ?aB ?aS ?aL ?_; (case aP => rfl); (case aB => exact HBa.out); (case aF => exact (fun _ _ => trivial)); (case aO => exact HOa.out); (case aS => exact HBa.out.size); (case aL => have := HLJ.out; omega); intro v1 w15 ho hb hg hat)
        have HO6 : Aside0 (Kd.R (Kd.int .i64) 3 w15 w2.heap.size (fun _ => True) v1 ((c.take (J + 1).toNat).map S38.f0)) := ⟨by rw [HT.out]; exact ho⟩
        have HB6 := Aside0.mk hb
        clear ho hb hg hat HBa HOa HO HW HT HLJ hx0 hx1 hx2
        go_wp2_with fail
        go_roundw
        case rel => exact ⟨J + 1, by omega, by omega, rfl, HO6, HB6⟩
        case measure => simp [intOf]; omega
      · have hjl : J = c.length := by omega
        have HO2 : Aside0 (Kd.R (Kd.int .i64) 3 wr w2.heap.size (fun _ => True) u5 (c.map S38.f0)) := ⟨by have := HO.out; rwa [hjl, Int.toNat_natCast, List.take_length] at this⟩
        have HS := Aside0.mk (sortR HO2.out (by have := HCL.out; simp; omega))
        clear HO
        go_wp2_with fail
        refine HS.out.mono ?_
        rintro e w4 ⟨rfl, hR4, hB4⟩
        have HR4 := Aside0.mk hR4
        have HB4 : Aside0 (Below w.heap.size w w4) := ⟨HB2.out.trans ((hB4 _ HW.out HW.out.size).mono HB2.out.size)⟩
        have HZ4 := Aside0.mk HB2.out.size
        clear hR4 hB4
        go_wp2_with fail
        go_ret
        exact ⟨_, rfl, by rw [← HCe.out]; exact Kd.R_lower HR4.out HZ4.out, HB4.out⟩
end Go.Proofs.Ytdailoccmjeceaa.PAll
