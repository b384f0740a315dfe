/- The reference's Path (written by gen_h20.py out of h20_base.txt). -/
import Derived.Test.YtbheobngeocdfaaM0
namespace Go.Proofs.Ytbheobngeocdfaa.PAll
open Go.RowKit Go.Proofs.YtbheobngeocdfaaW.PrintWords Go.Proofs.YtbheobngeocdfaaW.PrintLast Go.Proofs.YtbheobngeocdfaaW.PrintMore
set_option linter.unusedVariables false
set_option linter.unusedSimpArgs false

theorem cellAt_det {W : World} {a : Addr} {u v : Value} (h : W.cell? a = some u) (k : W.cell? a = some v) : u = v := Option.some.inj (h.symm.trans k)

set_option maxRecDepth 100000 in
set_option maxHeartbeats 8000000 in
theorem RPath_calls (T : S24) (hn : (pre24 T).length < 1099511627776) (A : Option Addr) (c : Nat) (number : Int) (w : World) (hC : k24.C w A T.f4.length T.f4) (hc : T.f4.length ≤ c) :
    Calls Try.prog 27 #[val24 T A c, .int .i64 number] w fun e w' => ∃ v, e = .returned (.tuple #[v, .bool (decide (0 ≤ number) && decide (number < (pre24 T).length))]) ∧ Kd.R (Kd.int .i64) 3 w' w.heap.size (fun _ => True) v (if 0 ≤ number ∧ number < (pre24 T).length then path24 T number.toNat else []) ∧ Below w.heap.size w w' := by
  have HN := Aside0.mk hn
  clear hn
  have hu24 := Try.underlying24
  have hu22 := Try.underlying22
  have hu33 := Try.underlying33
  simp only [val24]
  have HX := Aside0.mk (fun w' (h : Below w.heap.size w w') => RCount_calls T A c w' (Kd.C_below hC h) hc (by have := HN.out; omega))
  simp only [val24] at HX
  by_cases h0 : number < 0
  · have h0b : decide (number < 0) = true := by simp [h0]
    have e1 : decide (0 ≤ number) = false := by simp; omega
    have e2 : (if 0 ≤ number ∧ number < ((pre24 T).length : Int) then path24 T number.toNat else []) = [] := by rw [if_neg]; omega
    rw [e1, e2, Bool.false_and]
    clear h0 e1 e2
    go_enter Try.func27, Try.ntmps27
    go_wp2_with fail
    refine bodyPost_ret (results_tmp2 rfl _ _ _) rfl ?_
    exact ⟨_, rfl, Kd.R_nil _ _ _ _ _, (Below.refl w.heap.size w).alloc (Nat.le_refl _) _⟩
  · have h0b : decide (number < 0) = false := by simp; omega
    obtain ⟨m, rfl⟩ : ∃ m : Nat, number = (m : Int) := ⟨number.toNat, by omega⟩
    by_cases h1 : m < (pre24 T).length
    · have e1 : (decide (0 ≤ (m : Int)) && decide ((m : Int) < ((pre24 T).length : Int))) = true := by simp; omega
      have e2 : (if 0 ≤ (m : Int) ∧ (m : Int) < ((pre24 T).length : Int) then path24 T (m : Int).toNat else []) = path24 T m := by rw [if_pos (by omega)]; simp
      rw [e1, e2]
      have h1b : ((pre24 T).length ≤ m) = False := by simp; omega
      have H1 := Aside0.mk h1
      have HC := Aside0.mk hC
      have HCC := Aside0.mk hc
      clear e1 e2 h0 h1 hC hc
      go_enter Try.func27, Try.ntmps27
      go_wp2_with fail
      refine (HX.out _ ((Below.refl w.heap.size w).alloc (Nat.le_refl _) _)).mono ?_
      clear HX
      rintro e w1 ⟨rfl, hb⟩
      have HB := Aside0.mk (((Below.refl w.heap.size w).alloc (Nat.le_refl _) (.cells #[.int .i64 T.f0, .string T.f1, .int .i64 T.f2, .int .i64 T.f3, .slice A T.f4.length c] 24)).trans (hb.mono (by simp)))
      have HBN := Aside0.mk (blk_below (blk_new w (.cells #[.int .i64 T.f0, .string T.f1, .int .i64 T.f2, .int .i64 T.f3, .slice A T.f4.length c] 24)) hb)
      clear hb
      have hwm : wrap64 ((m : Int) - 1) = (m : Int) - 1 := wrap_ok (by omega) (by have := H1.out; have := HN.out; omega)
      go_wp2_with fail
      clear h0b h1b
      go_loopw [6, 1] (fun p q wr => ∃ (v : Value) (x : S24) (o : Nat) (acc : List Int) (A : Option Addr) (c : Nat), v = p ∧ q = .int .i64 ((o : Int) - 1) ∧ Aside0 (wr.heap[w.heap.size]? = some (.cells #[.int .i64 x.f0, .string x.f1, .int .i64 x.f2, .int .i64 x.f3, .slice A x.f4.length c] 24 (0, 0))) ∧ Aside0 (k24.C w A x.f4.length x.f4) ∧ Aside0 (x.f4.length ≤ c) ∧ Aside0 (acc ++ path24 x o = path24 T m) ∧ Aside0 (o < (pre24 x).length ∧ (pre24 x).length ≤ (pre24 T).length ∧ acc.length + o ≤ m) ∧ Aside0 (Kd.R (Kd.int .i64) 3 wr w.heap.size (fun k => w.heap.size < k) v acc) ∧ Aside0 (Below w.heap.size w wr))
        (fun p q wr => (intOf q + 1).toNat)
      case atStart =>
        refine ⟨_, T, m, [], A, c, rfl, ?_, ⟨blk_alloc HBN.out _⟩, HC, HCC, ⟨rfl⟩, ⟨H1.out, Nat.le_refl _, by simp⟩, ⟨?_⟩, ⟨HB.out.alloc HB.out.size _⟩⟩
        · first | rfl | rw [hwm]
        · have hlt := (Array.getElem?_eq_some_iff.1 HBN.out).1
          refine ⟨fun k hk => ?_, [], ⟨rfl, .inr ⟨w1.heap.size, 0, #[], rfl, by omega, World.alloc_heap_new _ _, Nat.le_refl _, Nat.zero_le _, rfl, rfl⟩⟩, Reps.none _ _⟩
          have : w1.heap.size = k := by simpa [Value.ownBlock] using hk
          omega
      case round =>
        clear HBN HB HC HCC hwm
        obtain ⟨v, x, o, acc, A, c, rfl, rfl, HBN, HC, HCC, HP, HO, HR, HB⟩ := hrel
        obtain ⟨O, hO⟩ : ∃ O : Int, O = (o : Int) - 1 := ⟨_, rfl⟩
        rw [← hO]
        have HOO := Aside0.mk hO
        clear hO
        cases o with
        | zero =>
          have hlt : ¬ (O ≥ 0) := by have := HOO.out; omega
          go_wp2_with fail
          refine bodyPost_ret (results_tmp2 rfl _ _ _) rfl ?_
          refine ⟨_, rfl, ?_, HB.out⟩
          have e : acc = path24 T m := by rw [← HP.out, path24_zero, List.append_nil]
          rw [← e]
          exact Kd.R_mono HR.out (fun _ _ => trivial)
        | succ o =>
          have hge : O ≥ 0 := by have := HOO.out; omega
          go_wp2_with fail
          clear hge
          go_loopw [7, 1] (fun p q wr => ∃ (j m2 : Nat), p = .int .i64 (j : Int) ∧ q = .int .i64 (m2 : Int) ∧ Aside0 (j ≤ x.f4.length) ∧ Aside0 (acc ++ pathL24 (x.f4.drop j) (j : Int) m2 = path24 T m) ∧ Aside0 (m2 < (preL24 (x.f4.drop j)).length ∧ m2 ≤ o) ∧ Aside0 (wr.heap[w.heap.size]? = some (.cells #[.int .i64 x.f0, .string x.f1, .int .i64 x.f2, .int .i64 x.f3, .slice A x.f4.length c] 24 (0, 0))) ∧ Aside0 (Kd.R (Kd.int .i64) 3 wr w.heap.size (fun k => w.heap.size < k) v acc) ∧ Aside0 (Below w.heap.size w wr))
            (fun p q wr => x.f4.length - (intOf p).toNat)
          case atStart =>
            refine ⟨0, o, rfl, ?_, ⟨Nat.zero_le _⟩, ⟨?_⟩, ⟨?_, Nat.le_refl _⟩, HBN, HR, HB⟩
            · have := HOO.out; rw [show O = (o : Int) by omega]
            · rw [← HP.out, path24_succ]; rfl
            · have := HO.out.1; rw [pre24_eq] at this; simpa using this
          case round =>
            clear HBN HB HR
            obtain ⟨j, m2, rfl, rfl, HJ, HQ, HM, HBN, HR, HB⟩ := hrel
            have hj : j < x.f4.length := by
              rcases Nat.lt_or_ge j x.f4.length with h | h
              · exact h
              · have := HM.out.1; rw [List.drop_eq_nil_of_le h] at this; simp [preL24] at this
            have hj0 : (0 : Int) ≤ (j : Int) := by omega
            have hj1 : (j : Int) < (x.f4.length : Int) := by omega
            have hk : wr.cell? ⟨w.heap.size, 4, none⟩ = some (.slice A x.f4.length c) := (blk_cell HBN.out 4).trans rfl
            obtain ⟨ad2, A4, c4, rfl, e0, e1, e2, e3, e4, el, eC⟩ := elem24 HC.out HB.out j hj
            have HE := Aside0.mk eC
            have HEL := Aside0.mk el
            have HKL : Aside0 ((pre24 x.f4[j]).length ≤ (preL24 x.f4).length) := ⟨pre_mem24 hj⟩
            have HPX : Aside0 ((preL24 x.f4).length + 1 ≤ (pre24 T).length) := ⟨by have := HO.out.2.1; rw [pre24_eq] at this; simpa using this⟩
            have HEV : Aside0 (∀ W, Below w.heap.size w W → W.cell? ⟨(ad2.add (j * 5)).block, (ad2.add (j * 5)).off + 4, none⟩ = some (.slice A4 x.f4[j].f4.length c4)) := ⟨fun W hW => by
              obtain ⟨ad3, A5, c5, h0, f0, f1, f2, f3, f4, fl, fC⟩ := elem24 HC.out (Below.refl w.heap.size w) j hj
              cases h0
              have h8 := (HB.out.cell (World.block_lt_of_cell? w _ f4)).trans f4
              rw [cellAt_det e4 h8]
              exact (hW.cell (World.block_lt_of_cell? w _ f4)).trans f4⟩
            clear eC el
            have hX : ∀ W, Below w.heap.size w W → _ := fun W hW => RCount_calls x.f4[j] A4 c4 W (Kd.C_below HE.out hW) HEL.out (by have := HKL.out; have := HPX.out; have := HN.out; omega)
            simp only [val24] at hX
            have HX := Aside0.mk hX
            clear hX
            go_wp2_with fail
            refine (HX.out _ HB.out).mono ?_
            rintro e w3 ⟨rfl, hb⟩
            have HB3 := Aside0.mk (HB.out.trans (hb.mono HB.out.size))
            have HBN3 := Aside0.mk (blk_below HBN.out hb)
            have HR3 := Aside0.mk (Kd.R_below HR.out hb)
            clear hb e0 e1 e2 e3 e4 hk
            by_cases hm2 : m2 < (pre24 x.f4[j]).length
            · have hm2b : ((pre24 x.f4[j]).length ≤ m2) = False := by simp; omega
              have HM2 := Aside0.mk hm2
              have hwm2 : wrap64 ((m2 : Int) - 1) = (m2 : Int) - 1 := wrap_ok (by omega) (by have := HM2.out; have := HKL.out; have := HPX.out; have := HN.out; omega)
              clear hm2 HX
              go_wp2_with fail
              clear hm2b
              have BN := Aside0.mk (blk_drew HBN3.out)
              have RR := Aside0.mk (Kd.R_drew HR3.out)
              have BB := Aside0.mk (below_drew1 HB3.out)
              have HLA : Aside0 (acc.length + 1 < 1099511627776) := ⟨by have := HO.out; have := H1.out; have := HN.out; omega⟩
              have hS : ∀ {W : World}, Below w.heap.size w W → W.heap[w.heap.size]? = some (.cells #[.int .i64 x.f0, .string x.f1, .int .i64 x.f2, .int .i64 x.f3, .slice (some ad2) x.f4.length c] 24 (0, 0)) → (W.cell? ⟨w.heap.size, 4, none⟩ = some (.slice (some ad2) x.f4.length c) ∧ W.cell? (ad2.add (j * 5)) = some (.int .i64 x.f4[j].f0) ∧ W.cell? (⟨(ad2.add (j * 5)).block, (ad2.add (j * 5)).off + 1, none⟩) = some (.string x.f4[j].f1) ∧ W.cell? (⟨(ad2.add (j * 5)).block, (ad2.add (j * 5)).off + 2, none⟩) = some (.int .i64 x.f4[j].f2) ∧ W.cell? (⟨(ad2.add (j * 5)).block, (ad2.add (j * 5)).off + 3, none⟩) = some (.int .i64 x.f4[j].f3) ∧ W.cell? (⟨(ad2.add (j * 5)).block, (ad2.add (j * 5)).off + 4, none⟩) = some (.slice A4 x.f4[j].f4.length c4)) := fun {W} hb hn => by
                obtain ⟨ad3, A5, c5, h0, e0, e1, e2, e3, e4, el, eC⟩ := elem24 HC.out hb j hj
                cases h0
                have h4 := cellAt_det e4 (HEV.out _ hb)
                injection h4 with h5 _ h6
                subst h5; subst h6
                exact ⟨(blk_cell hn 4).trans rfl, e0, e1, e2, e3, e4⟩
              clear HB3 HBN3 HR3
              refine start_ (n := 14) (S := fun w' => w'.cell? ⟨w.heap.size, 4, none⟩ = some (.slice (some ad2) x.f4.length c) ∧ w'.cell? (ad2.add (j * 5)) = some (.int .i64 x.f4[j].f0) ∧ w'.cell? (⟨(ad2.add (j * 5)).block, (ad2.add (j * 5)).off + 1, none⟩) = some (.string x.f4[j].f1) ∧ w'.cell? (⟨(ad2.add (j * 5)).block, (ad2.add (j * 5)).off + 2, none⟩) = some (.int .i64 x.f4[j].f2) ∧ w'.cell? (⟨(ad2.add (j * 5)).block, (ad2.add (j * 5)).off + 3, none⟩) = some (.int .i64 x.f4[j].f3) ∧ w'.cell? (⟨(ad2.add (j * 5)).block, (ad2.add (j * 5)).off + 4, none⟩) = some (.slice A4 x.f4[j].f4.length c4)) (ds := [12]) #[false, false, false, false, false, false, false, false, false, false, false, false, false, false] (by kernel_rfl) rfl rfl (hS BB.out BN.out) (fun hHeld => ?_)
              generalize w3.drew = w4 at BN RR BB hHeld ⊢
              refine pure_ (i := 0) (N := some 39) (v := ?_) (a' := ?_) #[true, false, false, false, false, false, false, false, false, false, false, false, false, false] rfl rfl (by kernel_rfl) (fun _ _ _ h => h) (Or.inl ⟨by rfl, ?_⟩) ?_ ?_
              rotate_left
              · intro w'
                go_simp
                with_reducible rfl
              rotate_left
              · simp only [Act.put, List.setIfInBounds_toArray, List.set_cons_zero, List.set_cons_succ, i64_w, i32_w]
                rfl
              refine pure_ (i := 1) (N := some 40) (v := ?_) (a' := ?_) #[true, true, false, false, false, false, false, false, false, false, false, false, false, false] rfl rfl (by kernel_rfl) (fun _ _ _ h => h) (Or.inl ⟨by rfl, ?_⟩) ?_ ?_
              rotate_left
              · intro w'
                go_simp
                with_reducible rfl
              rotate_left
              · simp only [Act.put, List.setIfInBounds_toArray, List.set_cons_zero, List.set_cons_succ, i64_w, i32_w]
                rfl
              refine pure_ (i := 4) (N := some 43) (v := ?_) (a' := ?_) #[true, true, false, false, true, false, false, false, false, false, false, false, false, false] rfl rfl (by kernel_rfl) (fun _ _ _ h => h) (Or.inl ⟨by rfl, ?_⟩) ?_ ?_
              rotate_left
              · intro w'
                go_simp
                with_reducible rfl
              rotate_left
              · simp only [Act.put, List.setIfInBounds_toArray, List.set_cons_zero, List.set_cons_succ, i64_w, i32_w]
                rfl
              refine take_ (i := 5) (N := some 44) (v := ?_) (a' := ?_) #[true, true, false, false, true, true, false, false, false, false, false, false, false, false] rfl rfl (by kernel_rfl) (fun _ _ _ h => h) (Or.inl ⟨by rfl, ?_⟩) hHeld ?_ ?_
              rotate_left
              · rintro w' ⟨s0, s1, s2, s3, s4, s5⟩
                go_simp
                with_reducible rfl
              rotate_left
              · simp only [Act.put, List.setIfInBounds_toArray, List.set_cons_zero, List.set_cons_succ, i64_w, i32_w]
                rfl
              refine pure_ (i := 6) (N := some 45) (v := ?_) (a' := ?_) #[true, true, false, false, true, true, true, false, false, false, false, false, false, false] rfl rfl (by kernel_rfl) (fun _ _ _ h => h) (Or.inl ⟨by rfl, ?_⟩) ?_ ?_
              rotate_left
              · intro w'
                go_simp
                with_reducible rfl
              rotate_left
              · simp only [Act.put, List.setIfInBounds_toArray, List.set_cons_zero, List.set_cons_succ, i64_w, i32_w]
                rfl
              refine pure_ (i := 7) (N := some 46) (v := ?_) (a' := ?_) #[true, true, false, false, true, true, true, true, false, false, false, false, false, false] rfl rfl (by kernel_rfl) (fun _ _ _ h => h) (Or.inl ⟨by rfl, ?_⟩) ?_ ?_
              rotate_left
              · intro w'
                go_simp
                with_reducible rfl
              rotate_left
              · simp only [Act.put, List.setIfInBounds_toArray, List.set_cons_zero, List.set_cons_succ, i64_w, i32_w]
                rfl
              refine take_ (i := 8) (N := some 47) (v := ?_) (a' := ?_) #[true, true, false, false, true, true, true, true, true, false, false, false, false, false] rfl rfl (by kernel_rfl) (fun _ _ _ h => h) (Or.inl ⟨by rfl, ?_⟩) hHeld ?_ ?_
              rotate_left
              · rintro w' ⟨s0, s1, s2, s3, s4, s5⟩
                go_simp
                with_reducible rfl
              rotate_left
              · simp only [Act.put, List.setIfInBounds_toArray, List.set_cons_zero, List.set_cons_succ, i64_w, i32_w]
                rfl
              refine pure_ (i := 9) (N := some 48) (v := ?_) (a' := ?_) #[true, true, false, false, true, true, true, true, true, true, false, false, false, false] rfl rfl (by kernel_rfl) (fun _ _ _ h => h) (Or.inl ⟨by rfl, ?_⟩) ?_ ?_
              rotate_left
              · intro w'
                go_simp
                with_reducible rfl
              rotate_left
              · simp only [Act.put, List.setIfInBounds_toArray, List.set_cons_zero, List.set_cons_succ, i64_w, i32_w]
                rfl
              refine pure_ (i := 10) (N := some 49) (v := ?_) (a' := ?_) #[true, true, false, false, true, true, true, true, true, true, true, false, false, false] rfl rfl (by kernel_rfl) (fun _ _ _ h => h) (Or.inl ⟨by rfl, ?_⟩) ?_ ?_
              rotate_left
              · intro w'
                go_simp
                with_reducible rfl
              rotate_left
              · simp only [Act.put, List.setIfInBounds_toArray, List.set_cons_zero, List.set_cons_succ, i64_w, i32_w]
                rfl
              refine one_ (i := 2) (N := some 41) #[true, true, true, false, true, true, true, true, true, true, true, false, false, false] rfl rfl (by kernel_rfl) (by decide) (fun K hK => ?_)
              refine value_ (w1 := ?_) (v := ?_) (by rfl) rfl ?_ ?_
              rotate_left 2
              · go_simp
                constructor
                · rfl
                · rfl
              refine hK.out _ _ (hS (BB.out.alloc BB.out.size _) (blk_alloc BN.out _)) (fun hHeld => ?_)
              clear hK K
              refine norm_ (a' := ?_) ?_ ?_
              rotate_left
              · show Act.put _ (some 41) _ = _
                simp only [Act.put, List.setIfInBounds_toArray, List.set_cons_zero, List.set_cons_succ, i64_w, i32_w]
                rfl
              refine one_ (i := 3) (N := some 42) #[true, true, true, true, true, true, true, true, true, true, true, false, false, false] rfl rfl (by kernel_rfl) (by decide) (fun K hK => ?_)
              refine Kd.R_append_step (Kd.int .i64) (w0 := w) w.heap.size (by rfl) (.tmp 39) (.tmp 41) 33 3 (.int .i64 0) 8 rfl Try.underlying33 info3 rfl (by decide) (by omega) _ acc (j : Int) [.int .i64 (j : Int)] (fun k_ => w.heap.size < k_) (fun _ => False) rfl rfl ?aP (fun _ hk => hk.elim) ?aF ?aO ?aB ?aS ?aL ?_
              (case aP => exact rfl)
              (case aB => exact BB.out)
              (case aF => intro k_ hk; have := (Array.getElem?_eq_some_iff.1 BN.out).1; omega)
              (case aO => exact RR.out)
              (case aS => exact BB.out.size)
              (case aL => have := HLA.out; omega)
              intro v5 w5 ho hb hg hat
              have BN5 := Aside0.mk (blk_grown BN.out hg (Kd.R_ne RR.out BN.out (by decide)))
              have RR5 := Aside0.mk ho
              have BB5 := Aside0.mk hb
              clear ho hb hg hat BN RR BB
              refine hK.out _ _ (hS BB5.out BN5.out) (fun hHeld => ?_)
              clear hK K
              refine norm_ (a' := ?_) ?_ ?_
              rotate_left
              · show Act.put _ (some 42) _ = _
                simp only [Act.put, List.setIfInBounds_toArray, List.set_cons_zero, List.set_cons_succ, i64_w, i32_w]
                rfl
              refine pure_ (i := 11) (N := some 6) (v := ?_) (a' := ?_) #[true, true, true, true, true, true, true, true, true, true, true, true, false, false] rfl rfl (by kernel_rfl) (fun _ _ _ h => h) (Or.inl ⟨by rfl, ?_⟩) ?_ ?_
              rotate_left
              · intro w'
                go_simp
                with_reducible rfl
              rotate_left
              · simp only [Act.put, List.setIfInBounds_toArray, List.set_cons_zero, List.set_cons_succ, i64_w, i32_w]
                rfl
              refine last_ (i := 12) (N := none) #[true, true, true, true, true, true, true, true, true, true, true, true, true, false] rfl rfl (by kernel_rfl) (by decide) (fun K hK => ?_)
              have hs0 : w5.cell? ⟨w.heap.size, 0, none⟩ = some (.int .i64 x.f0) := (blk_cell BN5.out 0).trans rfl
              have hf0 := blk_frozen BN5.out 0
              have hs1 : w5.cell? ⟨w.heap.size, 1, none⟩ = some (.string x.f1) := (blk_cell BN5.out 1).trans rfl
              have hf1 := blk_frozen BN5.out 1
              have hs2 : w5.cell? ⟨w.heap.size, 2, none⟩ = some (.int .i64 x.f2) := (blk_cell BN5.out 2).trans rfl
              have hf2 := blk_frozen BN5.out 2
              have hs3 : w5.cell? ⟨w.heap.size, 3, none⟩ = some (.int .i64 x.f3) := (blk_cell BN5.out 3).trans rfl
              have hf3 := blk_frozen BN5.out 3
              have hs4 : w5.cell? ⟨w.heap.size, 4, none⟩ = some (.slice (some ad2) x.f4.length c) := (blk_cell BN5.out 4).trans rfl
              have hf4 := blk_frozen BN5.out 4
              refine skip_ (w1 := ?_) (by rfl) rfl ?_ ?_
              rotate_left
              · go_simp
                rfl
              refine hK.out _ _ ?_
              clear hK K
              refine pure_ (i := 13) (N := some 1) (v := ?_) (a' := ?_) #[true, true, true, true, true, true, true, true, true, true, true, true, true, true] rfl rfl (by kernel_rfl) (fun _ _ _ h => h) (Or.inl ⟨by rfl, ?_⟩) ?_ ?_
              rotate_left
              · intro w'
                go_simp
                with_reducible rfl
              rotate_left
              · simp only [Act.put, List.setIfInBounds_toArray, List.set_cons_zero, List.set_cons_succ, i64_w, i32_w]
                rfl
              refine done_ (by kernel_rfl) ?_
              clear hS hHeld
              go_wp2_with fail
              refine ⟨⟨v5, x.f4[j], m2, acc ++ [(j : Int)], A4, c4, rfl, ?_, ⟨?_⟩, HE, HEL, ⟨?_⟩, ⟨?_, ?_, ?_⟩, ⟨?_⟩, ⟨?_⟩⟩, ?_⟩
              · first | rfl | (rw [hwm2]; rfl) | (rw [hwm2])
              · refine blk_put (cs := #[.int .i64 x.f4[j].f0, .string x.f4[j].f1, .int .i64 x.f4[j].f2, .int .i64 x.f4[j].f3, .slice (some ad2) x.f4.length c]) ?_ 4 _ rfl
                refine blk_put (cs := #[.int .i64 x.f4[j].f0, .string x.f4[j].f1, .int .i64 x.f4[j].f2, .int .i64 x.f3, .slice (some ad2) x.f4.length c]) ?_ 3 _ rfl
                refine blk_put (cs := #[.int .i64 x.f4[j].f0, .string x.f4[j].f1, .int .i64 x.f2, .int .i64 x.f3, .slice (some ad2) x.f4.length c]) ?_ 2 _ rfl
                refine blk_put (cs := #[.int .i64 x.f4[j].f0, .string x.f1, .int .i64 x.f2, .int .i64 x.f3, .slice (some ad2) x.f4.length c]) ?_ 1 _ rfl
                refine blk_put (cs := #[.int .i64 x.f0, .string x.f1, .int .i64 x.f2, .int .i64 x.f3, .slice (some ad2) x.f4.length c]) ?_ 0 _ rfl
                exact BN5.out
              · rw [← HQ.out, pathL24_drop hj, if_pos HM2.out]; simp
              · exact HM2.out
              · have := HKL.out; have := HPX.out; omega
              · have := HO.out.2.2; have := HM.out.2; simp only [List.length_append, List.length_singleton]; omega
              · iterate 5 refine Kd.R_far ?_ (fun k hk => Nat.ne_of_gt hk) _
                exact RR5.out
              · iterate 5 refine below_set ?_ (Nat.le_refl _)
                exact BB5.out
              · have := HOO.out; have := HM.out.2
                first | (rw [hwm2]; show ((m2 : Int) - 1 + 1).toNat < (O + 1).toNat; omega) | (show ((m2 : Int) - 1 + 1).toNat < (O + 1).toNat; omega)
            · have hm2b : ((pre24 x.f4[j]).length ≤ m2) = True := by simp; omega
              have HM2 := Aside0.mk hm2
              clear hm2
              obtain ⟨ad3, A5, c5, h0, e0, e1, e2, e3, e4, el, eC⟩ := elem24 HC.out HB3.out j hj
              cases h0
              have e4' := HEV.out _ HB3.out
              have h5 := cellAt_det e4 e4'
              injection h5 with h6 _ h7
              subst h6; subst h7
              have hk : w3.cell? ⟨w.heap.size, 4, none⟩ = some (.slice (some ad2) x.f4.length c) := (blk_cell HBN3.out 4).trans rfl
              clear e4' el eC
              go_wp2_with fail
              refine (HX.out _ HB3.out).mono ?_
              rintro e w4 ⟨rfl, hb⟩
              have HB4 := Aside0.mk (HB3.out.trans (hb.mono HB3.out.size))
              have HBN4 := Aside0.mk (blk_below HBN3.out hb)
              have HR4 := Aside0.mk (Kd.R_below HR3.out hb)
              clear hb e0 e1 e2 e3 e4 hk
              go_wp2_with fail
              go_roundw
              case rel =>
                refine ⟨j + 1, m2 - (pre24 x.f4[j]).length, ?_, ?_, ⟨hj⟩, ⟨?_⟩, ⟨?_, ?_⟩, HBN4, HR4, HB4⟩
                · have := HKL.out; have := HPX.out; have := HN.out; have := len_preL24 x.f4
                  first | rfl | (rw [wrap64_small24 (by omega)]; rfl)
                · have := HM2.out; have := HM.out; have := HO.out; have := HN.out
                  have e : wrap64 ((m2 : Int) - ((pre24 x.f4[j]).length : Int)) = ((m2 - (pre24 x.f4[j]).length : Nat) : Int) := by unfold wrap64; omega
                  rw [e]
                · rw [← HQ.out, pathL24_drop hj, if_neg HM2.out]; rfl
                · have := HM.out.1; rw [preL24_drop hj] at this; have := HM2.out; omega
                · have := HM.out.2; omega
              case measure =>
                have := HKL.out; have := HPX.out; have := HN.out; have := len_preL24 x.f4
                rw [wrap64_small24 (by omega)]; show x.f4.length - (((j + 1 : Nat) : Int)).toNat < x.f4.length - (j : Int).toNat; omega
    · have e1 : (decide (0 ≤ (m : Int)) && decide ((m : Int) < ((pre24 T).length : Int))) = false := by simp; omega
      have e2 : (if 0 ≤ (m : Int) ∧ (m : Int) < ((pre24 T).length : Int) then path24 T (m : Int).toNat else []) = [] := by rw [if_neg (by omega)]
      rw [e1, e2]
      have h1b : ((pre24 T).length ≤ m) = True := by simp; omega
      clear e1 e2 h0 h1
      go_enter Try.func27, Try.ntmps27
      go_wp2_with fail
      refine (HX.out _ ((Below.refl w.heap.size w).alloc (Nat.le_refl _) _)).mono ?_
      clear HX
      rintro e w1 ⟨rfl, hb⟩
      have HB := Aside0.mk (((Below.refl w.heap.size w).alloc (Nat.le_refl _) (.cells #[.int .i64 T.f0, .string T.f1, .int .i64 T.f2, .int .i64 T.f3, .slice A T.f4.length c] 24)).trans (hb.mono (by simp)))
      clear hb
      go_wp2_with fail
      refine bodyPost_ret (results_tmp2 rfl _ _ _) rfl ?_
      exact ⟨_, rfl, Kd.R_nil _ _ _ _ _, HB.out⟩

def assessorref03_Path.f (a0_0 : Int) (a0_1 : ByteArray) (a0_2 : Int) (a0_3 : Int) (l0_4 : List S24) (a1 : Int) : Option (List Int × Bool) := tree_Path.f a0_0 a0_1 a0_2 a0_3 l0_4 a1

theorem assessorref03_Path.calls (a0_0 : Int) (a0_1 : ByteArray) (a0_2 : Int) (a0_3 : Int) (A0_4 : Option Addr) (c0_4 : Nat) (l0_4 : List (S24)) (a1 : Int) (r1 : List Int) (r2 : Bool) (w : World) (hr0_4 : Kd.C k24 w A0_4 l0_4.length l0_4) (hc0_4 : l0_4.length ≤ c0_4) (h : assessorref03_Path.f a0_0 a0_1 a0_2 a0_3 l0_4 a1 = some (r1, r2)) :
    Calls Try.prog 27 #[.agg #[.int .i64 a0_0, .string a0_1, .int .i64 a0_2, .int .i64 a0_3, .slice A0_4 l0_4.length c0_4], .int .i64 a1] w fun e w' => ∃ v0_ : Value, e = .returned (.tuple #[v0_, .bool r2]) ∧ Kd.R (Kd.int .i64) 3 w' w.heap.size (fun _ => True) v0_ r1 ∧ Below w.heap.size w w' := by
  unfold assessorref03_Path.f tree_Path.f at h
  split at h
  case isFalse => simp at h
  rename_i hn
  have h' := Option.some.inj h
  obtain ⟨rfl, rfl⟩ := Prod.mk.inj h'
  exact RPath_calls ⟨a0_0, a0_1, a0_2, a0_3, l0_4⟩ hn A0_4 c0_4 a1 w hr0_4 hc0_4
end Go.Proofs.Ytbheobngeocdfaa.PAll
