/- The reference's Counting: what its calls come to. Under no condition. -/
import Derived.Test.YtdailoccmjeceaaM3
import Derived.Test.YtdailoccmjeceaaH7
import Derived.Test.YtdailoccmjeceaaPAllxf34
namespace Go.Proofs.Ytdailoccmjeceaa.PAll
open Go.RowKit Go.Lib Go.Sort Go.Proofs.YtdailoccmjeceaaW.PrintWords Go.Proofs.YtdailoccmjeceaaW.PrintLast Go.Proofs.YtdailoccmjeceaaW.PrintMore
set_option linter.unusedVariables false
set_option linter.unusedSimpArgs false

theorem getD38 (l : List S38) (j : Nat) (h : j < l.length) : l.getD j z38 = l[j] := by simp [List.getD_eq_getElem?_getD, h]
theorem better_l0 (l : List S38) (hl : l.length ≤ 16) (i : Nat) (hi : i < l.length) : ∀ (n j c K : Nat), l.length - j = n → j ≤ l.length → c ≤ j → n + 1 ≤ K →
    assessorref52_better.l0 K l (i : Int) (c : Int) (j : Int) = some ((c + ((List.range' j (l.length - j)).countP fun k => decide ((l.getD i z38).f2 < (l.getD k z38).f2 ∨ ((l.getD k z38).f2 = (l.getD i z38).f2 ∧ k < i))) : Nat) : Int) := by
  intro n
  induction n with
  | zero =>
    intro j c K h1 h2 h3 h4
    obtain ⟨K, rfl⟩ : ∃ K', K = K' + 1 := ⟨K - 1, by omega⟩
    rw [assessorref52_better.l0, if_neg (by omega), show l.length - j = 0 from h1]
    simp
  | succ n ih =>
    intro j c K h1 h2 h3 h4
    obtain ⟨K, rfl⟩ : ∃ K', K = K' + 1 := ⟨K - 1, by omega⟩
    have hj : j < l.length := by omega
    rw [show l.length - j = (l.length - (j + 1)) + 1 from by omega, List.range'_succ, List.countP_cons]
    rw [assessorref52_better.l0, if_pos (by omega), if_pos (by omega), if_pos (by omega), if_pos (by omega), rdn l j hj, rdn l i hi, getD38 l i hi, getD38 l j hj, w64 (x := (c : Int) + 1) (by omega) (by omega), w64 (x := (j : Int) + 1) (by omega) (by omega)]
    have e1 := ih (j + 1) (c + 1) K (by omega) (by omega) (by omega) (by omega)
    have e0 := ih (j + 1) c K (by omega) (by omega) (by omega) (by omega)
    rw [show ((j + 1 : Nat) : Int) = (j : Int) + 1 from rfl] at e0 e1
    rw [show ((c + 1 : Nat) : Int) = (c : Int) + 1 from rfl] at e1
    rw [getD38 l i hi] at e0 e1
    by_cases h5 : l[j].f2 > l[i].f2
    · rw [if_pos h5, e1, if_pos (decide_eq_true (.inl h5))]
      congr 2; omega
    · rw [if_neg h5]
      by_cases h6 : l[j].f2 = l[i].f2
      · rw [if_pos h6]
        by_cases h7 : (j : Int) < (i : Int)
        · rw [if_pos h7, e1, if_pos (decide_eq_true (.inr ⟨h6, by omega⟩))]
          congr 2; omega
        · rw [if_neg h7, e0, if_neg (by rw [decide_eq_true_eq]; omega)]
          rfl
      · rw [if_neg h6, e0, if_neg (by rw [decide_eq_true_eq]; omega)]
        rfl
theorem better_f (l : List S38) (hl : l.length ≤ 16) (i : Nat) (hi : i < l.length) : assessorref52_better.f 20 l (i : Int) = some (betterA l i : Int) := by
  have h := better_l0 l hl i hi l.length 0 0 20 (by omega) (by omega) (by omega) (by omega)
  unfold assessorref52_better.f betterA
  rw [show ((0 : Nat) : Int) = 0 from rfl] at h
  rw [h, Nat.sub_zero, Nat.zero_add, ← List.range_eq_range']
theorem listR_step (k q : Int) (l : List S38) (J : Int) (h0 : 0 ≤ J) : ((List.range (J + 1).toNat).filter (countsB k q l)).map (fun i => ((i + 1 : Nat) : Int)) = ((List.range J.toNat).filter (countsB k q l)).map (fun i => ((i + 1 : Nat) : Int)) ++ (if countsB k q l J.toNat = true then [J + 1] else []) := by
  have h2 : (J + 1).toNat = J.toNat + 1 := by omega
  rw [h2, List.range_succ, List.filter_append, List.map_append]
  congr 1
  have e : ((J.toNat + 1 : Nat) : Int) = J + 1 := by omega
  cases hc : countsB k q l J.toNat with
  | true => rw [if_pos rfl, ← e]; simp [hc]
  | false => rw [if_neg (by decide)]; simp [hc]
theorem listR_len (k q : Int) (l : List S38) (n : Nat) : (((List.range n).filter (countsB k q l)).map (fun i => ((i + 1 : Nat) : Int))).length ≤ n := by
  rw [List.length_map]
  exact Nat.le_trans (List.length_filter_le _ _) (by simp)

set_option maxHeartbeats 8000000 in
set_option maxRecDepth 100000 in
theorem assessorref52_Counting.calls (a0_0 a0_1 a0_2 a0_3 : Int) (A1 : Option Addr) (c1 : Nat) (l1 : List S38) (r : List Int) (w : World) (hr1 : Kd.C k38 w A1 l1.length l1) (hc1 : l1.length ≤ c1) (h : assessorref52_Counting.f a0_0 a0_1 a0_2 a0_3 l1 = some r) :
    Calls Try.prog 17 #[.agg #[.int .i64 a0_0, .int .i64 a0_1, .int .i64 a0_2, .int .i64 a0_3], .slice A1 l1.length c1] w fun e w' => ∃ v0_ : Value, e = .returned (v0_) ∧ Kd.R (Kd.int .i64) 3 w' w.heap.size (fun _ => True) v0_ r ∧ Below w.heap.size w w' := by
  unfold assessorref52_Counting.f at h
  obtain rfl := Option.some.inj h
  clear h
  have hu23 := Try.underlying23
  have HR := Aside0.mk hr1
  have HC := Aside0.mk hc1
  clear hr1 hc1
  obtain ⟨W0, hW0⟩ : ∃ W0, W0 = ((w.alloc (.cells #[.int .i64 a0_0, .int .i64 a0_1, .int .i64 a0_2, .int .i64 a0_3] 23)).alloc (.cells #[] 3)) := ⟨_, rfl⟩
  have hb0 : Below w.heap.size w W0 := by rw [hW0]; exact ((Below.refl _ _).alloc (Nat.le_refl _) _).alloc (by simp) _
  have hz0 : W0.heap.size = w.heap.size + 2 := by rw [hW0]; simp
  have hk0 : W0.heap[w.heap.size]? = some (.cells #[.int .i64 a0_0, .int .i64 a0_1, .int .i64 a0_2, .int .i64 a0_3] 23 (0, 0)) := by
    rw [hW0, heap_alloc_old _ _ (by simp)]; exact heap_alloc_new w _
  have hk1 : W0.heap[w.heap.size + 1]? = some (.cells #[] 3 (0, 0)) := by
    rw [hW0]
    have := heap_alloc_new (w.alloc (.cells #[.int .i64 a0_0, .int .i64 a0_1, .int .i64 a0_2, .int .i64 a0_3] 23)) (.cells #[] 3)
    simpa using this
  have HV := Aside0.mk (assessorref52_Valid.calls a0_0 a0_1 a0_2 a0_3 A1 c1 l1 _ W0 (Kd.C_below HR.out hb0) HC.out rfl)
  have HK0 := Aside0.mk hk0
  have HK1 := Aside0.mk hk1
  have HB0 := Aside0.mk hb0
  have HZ0 := Aside0.mk hz0
  subst hW0
  clear hk0 hk1 hb0 hz0
  have HE1 : Aside0 (∀ w1, Below (w.heap.size + 2) ((w.alloc (.cells #[.int .i64 a0_0, .int .i64 a0_1, .int .i64 a0_2, .int .i64 a0_3] 23)).alloc (.cells #[] 3)) w1 →
      Below w.heap.size w w1 ∧ w1.heap[w.heap.size]? = some (.cells #[.int .i64 a0_0, .int .i64 a0_1, .int .i64 a0_2, .int .i64 a0_3] 23 (0, 0)) ∧ Kd.R (Kd.int .i64) 3 w1 w.heap.size (fun k => k ≠ w.heap.size) (.slice (some ⟨w.heap.size + 1, 0, none⟩) 0 0) []) := ⟨fun w1 hb => by
    have hh : w1.heap[w.heap.size + 1]? = some (.cells #[] 3 (0, 0)) := (hb.block _ (by omega)).trans HK1.out
    refine ⟨HB0.out.trans (hb.mono (by omega)), (hb.block _ (by omega)).trans HK0.out, ⟨?_, [], ⟨rfl, .inr ⟨w.heap.size + 1, 0, #[], rfl, by omega, hh, Nat.le_refl _, by decide, rfl, rfl⟩⟩, Reps.none _ _⟩⟩
    intro k hk
    simp [Value.ownBlock] at hk
    omega⟩
  unfold countR
  cases hv : validA a0_0 a0_1 a0_2 a0_3 l1 with
  | false =>
    rw [hv] at HV
    rw [if_neg (by decide)]
    clear hv
    go_enter Try.func17, Try.ntmps17
    go_wp2_with fail
    refine HV.out.mono ?_
    rintro e w1 ⟨rfl, hb⟩
    have H1 := Aside0.mk (HE1.out w1 (hb.mono (by have := HZ0.out; omega)))
    clear hb
    go_wp2_with fail
    go_ret
    exact ⟨_, rfl, Kd.R_mono H1.out.2.2 (fun _ _ => trivial), H1.out.1⟩
  | true =>
    have hlen := (validA_len hv).2.1
    have HLen := Aside0.mk hlen
    have HRi := Aside0.mk (rightB_most (validA_len hv).2.2.1)
    rw [hv] at HV
    rw [if_pos rfl]
    clear hv hlen
    go_enter Try.func17, Try.ntmps17
    go_wp2_with fail
    refine HV.out.mono ?_
    rintro e w1 ⟨rfl, hb⟩
    have H1 := Aside0.mk (HE1.out w1 (hb.mono (by have := HZ0.out; omega)))
    clear hb HV HB0 HK0 HK1 HE1
    go_wp2_with fail
    go_loopw [5, 6] (fun s5 s6 wr => ∃ J : Int, 0 ≤ J ∧ J ≤ l1.length ∧ s6 = .int .i64 J ∧ Aside0 (Kd.R (Kd.int .i64) 3 wr w.heap.size (fun k => k ≠ w.heap.size) s5 (((List.range J.toNat).filter (countsB a0_0 a0_3 l1)).map (fun i => ((i + 1 : Nat) : Int)))) ∧ Aside0 (Below w.heap.size w wr) ∧ Aside0 (wr.heap[w.heap.size]? = some (.cells #[.int .i64 a0_0, .int .i64 a0_1, .int .i64 a0_2, .int .i64 a0_3] 23 (0, 0)))) (fun _ s6 _ => l1.length - (intOf s6).toNat)
    case atStart => exact ⟨0, Int.le_refl _, by omega, rfl, ⟨H1.out.2.2⟩, ⟨H1.out.1⟩, ⟨H1.out.2.1⟩⟩
    case round =>
      clear H1
      obtain ⟨J, hJ0, hJ1, rfl, HO, HW, HK⟩ := hrel
      by_cases hjz : J < (l1.length : Int)
      · have hjw : IntKind.i64.wrap (J + 1) = J + 1 := by have := HLen.out; rw [Go.IntWalk.i64_in _ (by omega)]
        have hlw : IntKind.i64.wrap ((l1.length : Int) - 1) = (l1.length : Int) - 1 := by have := HLen.out; rw [Go.IntWalk.i64_in _ (by omega)]
        obtain ⟨L, hL⟩ : ∃ L, L = (l1.length : Int) - 1 := ⟨_, rfl⟩
        have hlw2 : IntKind.i64.wrap ((l1.length : Int) - 1) = L := hlw.trans hL.symm
        have HL := Aside0.mk hL
        have hx0 : wr.cell? ⟨w.heap.size, 0, none⟩ = some (.int .i64 a0_0) := (blk_cell HK.out 0).trans rfl
        have hx3 : wr.cell? ⟨w.heap.size, 3, none⟩ = some (.int .i64 a0_3) := (blk_cell HK.out 3).trans rfl
        obtain ⟨B, hB⟩ : ∃ B : Int, B = (betterA l1 J.toNat : Int) := ⟨_, rfl⟩
        have hbt : ∀ n, Calls Try.prog 34 #[.slice A1 l1.length c1, .int .i64 J] (wr.drewN n) fun e w' => e = .returned (.int .i64 B) ∧ Drawn0 (wr.drewN n) w' := fun n =>
          assessorref52_better.calls 20 A1 c1 l1 J B _ (Kd.C_below (Kd.C_below HR.out HW.out) (pw_below_drewN (Below.refl _ _) n)) HC.out (by
            have := better_f l1 HLen.out J.toNat (by omega)
            rw [show ((J.toNat : Nat) : Int) = J from by omega] at this
            rw [this, hB])
        have HBe := Aside0.mk hB
        have hne : u5.ownBlock ≠ some w.heap.size := fun e => HO.out.1 _ e rfl
        have HNE := Aside0.mk hne
        have HOd : Aside0 (∀ n, Kd.R (Kd.int .i64) 3 (wr.drewN n) w.heap.size (fun k => k ≠ w.heap.size) u5 (((List.range J.toNat).filter (countsB a0_0 a0_3 l1)).map (fun i => ((i + 1 : Nat) : Int)))) := ⟨fun n => Kd.R_drewN HO.out n⟩
        have HWd : Aside0 (∀ n, Below w.heap.size w (wr.drewN n)) := ⟨fun n => pw_below_drewN HW.out n⟩
        have HKd : Aside0 (∀ n, (wr.drewN n).heap[w.heap.size]? = some (.cells #[.int .i64 a0_0, .int .i64 a0_1, .int .i64 a0_2, .int .i64 a0_3] 23 (0, 0))) := ⟨fun n => by have := HK.out; simpa using this⟩
        have HJ := Aside0.mk (And.intro hJ0 hjz)
        clear hB hne hL hlw HO HW HK
        rcases (show a0_0 = 0 ∨ a0_0 = 1 ∨ a0_0 = 2 from by have := HRi.out; omega) with rfl | rfl | rfl
        · by_cases c : B = 0
          · have b1 : (B == 0) = true := beq_iff_eq.2 c
            have HCc := Aside0.mk c
            clear c
            have HCB : Aside0 (countsB 0 a0_3 l1 J.toNat = true) := ⟨by unfold countsB; exact decide_eq_true (.inl ⟨rfl, by have := HCc.out; have := HBe.out; omega⟩)⟩
            go_upto_region 7 with fail
            go_quiet (first | (go_at_call 34; refine (hbt _).mono ?_; rintro e w' ⟨rfl, ⟨nd2, rfl⟩⟩; (try first | exact ⟨rfl, _, World.drewN_drewN _ _ _⟩ | exact ⟨rfl, _, Eq.trans (World.drewN_drewN _ _ _) (congrArg (World.drewN _) (Nat.add_assoc _ _ _))⟩)))
            have hO2 := HOd.out nq
            have hW2 := HWd.out nq
            have hK2 := HKd.out nq
            generalize wr.drewN nq = w5 at hO2 hW2 hK2 ⊢
            have HO2 := Aside0.mk hO2
            have HW2 := Aside0.mk hW2
            have HK2 := Aside0.mk hK2
            clear hO2 hW2 hK2 HOd HWd HKd hx0 hx3 hbt
            have HLJ : Aside0 ((((List.range J.toNat).filter (countsB 0 a0_3 l1)).map (fun i => ((i + 1 : Nat) : Int))).length ≤ 16) := ⟨Nat.le_trans (listR_len 0 a0_3 l1 _) (by have := HLen.out; omega)⟩
            go_wp2_with ((with_reducible refine gate_builtin (b := .append) (xs := #[.tmp 55, .tmp 58]) rfl ?_); at_builtin; refine Kd.R_append (Kd.int .i64) (w0 := w) w.heap.size rfl (.tmp 55) (.tmp 58) 32 3 (.int .i64 0) 8 rfl Try.underlying32 info3 rfl (by decide) (by omega) u5 (((List.range J.toNat).filter (countsB 0 a0_3 l1)).map (fun i => ((i + 1 : Nat) : Int))) (J + 1) [.int .i64 (J + 1)] (fun k => k ≠ w.heap.size) (fun _ => False) rfl rfl ?aP (fun _ hk => hk.elim) ?aF ?aO ?aB ?aS ?aL ?_; (case aP => rfl); (case aB => exact HW2.out); (case aF => exact (fun k hk => by have := blk_lt HK2.out; omega)); (case aO => exact HO2.out); (case aS => exact HW2.out.size); (case aL => have := HLJ.out; omega); intro v1 w15 ho hb hg hat)
            have HO6 : Aside0 (Kd.R (Kd.int .i64) 3 w15 w.heap.size (fun k => k ≠ w.heap.size) v1 (((List.range (J + 1).toNat).filter (countsB 0 a0_3 l1)).map (fun i => ((i + 1 : Nat) : Int)))) := ⟨by rw [listR_step 0 a0_3 l1 J HJ.out.1, if_pos HCB.out]; exact ho⟩
            have HB6 := Aside0.mk hb
            have HK6 : Aside0 (w15.heap[w.heap.size]? = some _) := ⟨(hg.block _ (blk_lt HK2.out) (fun e => HNE.out e.symm)).trans HK2.out⟩
            clear ho hb hg hat HO2 HW2 HK2 HCB
            go_wp2_with fail
            go_roundw
            case rel => exact ⟨J + 1, by omega, by omega, rfl, HO6, HB6, HK6⟩
            case measure => simp [intOf]; omega
          · have b1 : (B == 0) = false := beq_eq_false_iff_ne.2 c
            have HCc := Aside0.mk c
            clear c
            have HCB : Aside0 (countsB 0 a0_3 l1 J.toNat = false) := ⟨by unfold countsB; exact decide_eq_false (by have := HCc.out; have := HBe.out; omega)⟩
            go_upto_region 7 with fail
            go_quiet (first | (go_at_call 34; refine (hbt _).mono ?_; rintro e w' ⟨rfl, ⟨nd2, rfl⟩⟩; (try first | exact ⟨rfl, _, World.drewN_drewN _ _ _⟩ | exact ⟨rfl, _, Eq.trans (World.drewN_drewN _ _ _) (congrArg (World.drewN _) (Nat.add_assoc _ _ _))⟩)))
            have hO2 := HOd.out nq
            have hW2 := HWd.out nq
            have hK2 := HKd.out nq
            generalize wr.drewN nq = w5 at hO2 hW2 hK2 ⊢
            have HO2 := Aside0.mk hO2
            have HW2 := Aside0.mk hW2
            have HK2 := Aside0.mk hK2
            clear hO2 hW2 hK2 HOd HWd HKd hx0 hx3 hbt
            have HO6 : Aside0 (Kd.R (Kd.int .i64) 3 w5 w.heap.size (fun k => k ≠ w.heap.size) u5 (((List.range (J + 1).toNat).filter (countsB 0 a0_3 l1)).map (fun i => ((i + 1 : Nat) : Int)))) := ⟨by rw [listR_step 0 a0_3 l1 J HJ.out.1, if_neg (by rw [HCB.out]; decide), List.append_nil]; exact HO2.out⟩
            clear HO2 HCB
            go_wp2_with fail
            go_roundw
            case rel => exact ⟨J + 1, by omega, by omega, rfl, HO6, HW2, HK2⟩
            case measure => simp [intOf]; omega
        · by_cases c : J = L
          · have b1 : (J == L) = true := beq_iff_eq.2 c
            have HCc := Aside0.mk c
            clear c
            have HCB : Aside0 (countsB 1 a0_3 l1 J.toNat = true) := ⟨by unfold countsB; exact decide_eq_true (.inr (.inl ⟨rfl, by have := HCc.out; have := HL.out; have := HJ.out; omega⟩))⟩
            go_upto_region 7 with fail
            go_quiet (fail)
            have hO2 := HOd.out nq
            have hW2 := HWd.out nq
            have hK2 := HKd.out nq
            generalize wr.drewN nq = w5 at hO2 hW2 hK2 ⊢
            have HO2 := Aside0.mk hO2
            have HW2 := Aside0.mk hW2
            have HK2 := Aside0.mk hK2
            clear hO2 hW2 hK2 HOd HWd HKd hx0 hx3 hbt
            have HLJ : Aside0 ((((List.range J.toNat).filter (countsB 1 a0_3 l1)).map (fun i => ((i + 1 : Nat) : Int))).length ≤ 16) := ⟨Nat.le_trans (listR_len 1 a0_3 l1 _) (by have := HLen.out; omega)⟩
            go_wp2_with ((with_reducible refine gate_builtin (b := .append) (xs := #[.tmp 55, .tmp 58]) rfl ?_); at_builtin; refine Kd.R_append (Kd.int .i64) (w0 := w) w.heap.size rfl (.tmp 55) (.tmp 58) 32 3 (.int .i64 0) 8 rfl Try.underlying32 info3 rfl (by decide) (by omega) u5 (((List.range J.toNat).filter (countsB 1 a0_3 l1)).map (fun i => ((i + 1 : Nat) : Int))) (J + 1) [.int .i64 (J + 1)] (fun k => k ≠ w.heap.size) (fun _ => False) rfl rfl ?aP (fun _ hk => hk.elim) ?aF ?aO ?aB ?aS ?aL ?_; (case aP => rfl); (case aB => exact HW2.out); (case aF => exact (fun k hk => by have := blk_lt HK2.out; omega)); (case aO => exact HO2.out); (case aS => exact HW2.out.size); (case aL => have := HLJ.out; omega); intro v1 w15 ho hb hg hat)
            have HO6 : Aside0 (Kd.R (Kd.int .i64) 3 w15 w.heap.size (fun k => k ≠ w.heap.size) v1 (((List.range (J + 1).toNat).filter (countsB 1 a0_3 l1)).map (fun i => ((i + 1 : Nat) : Int)))) := ⟨by rw [listR_step 1 a0_3 l1 J HJ.out.1, if_pos HCB.out]; exact ho⟩
            have HB6 := Aside0.mk hb
            have HK6 : Aside0 (w15.heap[w.heap.size]? = some _) := ⟨(hg.block _ (blk_lt HK2.out) (fun e => HNE.out e.symm)).trans HK2.out⟩
            clear ho hb hg hat HO2 HW2 HK2 HCB
            go_wp2_with fail
            go_roundw
            case rel => exact ⟨J + 1, by omega, by omega, rfl, HO6, HB6, HK6⟩
            case measure => simp [intOf]; omega
          · have b1 : (J == L) = false := beq_eq_false_iff_ne.2 c
            have HCc := Aside0.mk c
            clear c
            have HCB : Aside0 (countsB 1 a0_3 l1 J.toNat = false) := ⟨by unfold countsB; exact decide_eq_false (by have := HCc.out; have := HL.out; have := HJ.out; omega)⟩
            go_upto_region 7 with fail
            go_quiet (fail)
            have hO2 := HOd.out nq
            have hW2 := HWd.out nq
            have hK2 := HKd.out nq
            generalize wr.drewN nq = w5 at hO2 hW2 hK2 ⊢
            have HO2 := Aside0.mk hO2
            have HW2 := Aside0.mk hW2
            have HK2 := Aside0.mk hK2
            clear hO2 hW2 hK2 HOd HWd HKd hx0 hx3 hbt
            have HO6 : Aside0 (Kd.R (Kd.int .i64) 3 w5 w.heap.size (fun k => k ≠ w.heap.size) u5 (((List.range (J + 1).toNat).filter (countsB 1 a0_3 l1)).map (fun i => ((i + 1 : Nat) : Int)))) := ⟨by rw [listR_step 1 a0_3 l1 J HJ.out.1, if_neg (by rw [HCB.out]; decide), List.append_nil]; exact HO2.out⟩
            clear HO2 HCB
            go_wp2_with fail
            go_roundw
            case rel => exact ⟨J + 1, by omega, by omega, rfl, HO6, HW2, HK2⟩
            case measure => simp [intOf]; omega
        · by_cases c : B < a0_3
          · have b1 : decide (B < a0_3) = true := decide_eq_true c
            have HCc := Aside0.mk c
            clear c
            have HCB : Aside0 (countsB 2 a0_3 l1 J.toNat = true) := ⟨by unfold countsB; exact decide_eq_true (.inr (.inr ⟨rfl, by have := HCc.out; have := HBe.out; omega⟩))⟩
            go_upto_region 7 with fail
            go_quiet (first | (go_at_call 34; refine (hbt _).mono ?_; rintro e w' ⟨rfl, ⟨nd2, rfl⟩⟩; (try first | exact ⟨rfl, _, World.drewN_drewN _ _ _⟩ | exact ⟨rfl, _, Eq.trans (World.drewN_drewN _ _ _) (congrArg (World.drewN _) (Nat.add_assoc _ _ _))⟩)))
            have hO2 := HOd.out nq
            have hW2 := HWd.out nq
            have hK2 := HKd.out nq
            generalize wr.drewN nq = w5 at hO2 hW2 hK2 ⊢
            have HO2 := Aside0.mk hO2
            have HW2 := Aside0.mk hW2
            have HK2 := Aside0.mk hK2
            clear hO2 hW2 hK2 HOd HWd HKd hx0 hx3 hbt
            have HLJ : Aside0 ((((List.range J.toNat).filter (countsB 2 a0_3 l1)).map (fun i => ((i + 1 : Nat) : Int))).length ≤ 16) := ⟨Nat.le_trans (listR_len 2 a0_3 l1 _) (by have := HLen.out; omega)⟩
            go_wp2_with ((with_reducible refine gate_builtin (b := .append) (xs := #[.tmp 55, .tmp 58]) rfl ?_); at_builtin; refine Kd.R_append (Kd.int .i64) (w0 := w) w.heap.size rfl (.tmp 55) (.tmp 58) 32 3 (.int .i64 0) 8 rfl Try.underlying32 info3 rfl (by decide) (by omega) u5 (((List.range J.toNat).filter (countsB 2 a0_3 l1)).map (fun i => ((i + 1 : Nat) : Int))) (J + 1) [.int .i64 (J + 1)] (fun k => k ≠ w.heap.size) (fun _ => False) rfl rfl ?aP (fun _ hk => hk.elim) ?aF ?aO ?aB ?aS ?aL ?_; (case aP => rfl); (case aB => exact HW2.out); (case aF => exact (fun k hk => by have := blk_lt HK2.out; omega)); (case aO => exact HO2.out); (case aS => exact HW2.out.size); (case aL => have := HLJ.out; omega); intro v1 w15 ho hb hg hat)
            have HO6 : Aside0 (Kd.R (Kd.int .i64) 3 w15 w.heap.size (fun k => k ≠ w.heap.size) v1 (((List.range (J + 1).toNat).filter (countsB 2 a0_3 l1)).map (fun i => ((i + 1 : Nat) : Int)))) := ⟨by rw [listR_step 2 a0_3 l1 J HJ.out.1, if_pos HCB.out]; exact ho⟩
            have HB6 := Aside0.mk hb
            have HK6 : Aside0 (w15.heap[w.heap.size]? = some _) := ⟨(hg.block _ (blk_lt HK2.out) (fun e => HNE.out e.symm)).trans HK2.out⟩
            clear ho hb hg hat HO2 HW2 HK2 HCB
            go_wp2_with fail
            go_roundw
            case rel => exact ⟨J + 1, by omega, by omega, rfl, HO6, HB6, HK6⟩
            case measure => simp [intOf]; omega
          · have b1 : decide (B < a0_3) = false := decide_eq_false c
            have HCc := Aside0.mk c
            clear c
            have HCB : Aside0 (countsB 2 a0_3 l1 J.toNat = false) := ⟨by unfold countsB; exact decide_eq_false (by have := HCc.out; have := HBe.out; omega)⟩
            go_upto_region 7 with fail
            go_quiet (first | (go_at_call 34; refine (hbt _).mono ?_; rintro e w' ⟨rfl, ⟨nd2, rfl⟩⟩; (try first | exact ⟨rfl, _, World.drewN_drewN _ _ _⟩ | exact ⟨rfl, _, Eq.trans (World.drewN_drewN _ _ _) (congrArg (World.drewN _) (Nat.add_assoc _ _ _))⟩)))
            have hO2 := HOd.out nq
            have hW2 := HWd.out nq
            have hK2 := HKd.out nq
            generalize wr.drewN nq = w5 at hO2 hW2 hK2 ⊢
            have HO2 := Aside0.mk hO2
            have HW2 := Aside0.mk hW2
            have HK2 := Aside0.mk hK2
            clear hO2 hW2 hK2 HOd HWd HKd hx0 hx3 hbt
            have HO6 : Aside0 (Kd.R (Kd.int .i64) 3 w5 w.heap.size (fun k => k ≠ w.heap.size) u5 (((List.range (J + 1).toNat).filter (countsB 2 a0_3 l1)).map (fun i => ((i + 1 : Nat) : Int)))) := ⟨by rw [listR_step 2 a0_3 l1 J HJ.out.1, if_neg (by rw [HCB.out]; decide), List.append_nil]; exact HO2.out⟩
            clear HO2 HCB
            go_wp2_with fail
            go_roundw
            case rel => exact ⟨J + 1, by omega, by omega, rfl, HO6, HW2, HK2⟩
            case measure => simp [intOf]; omega
      · have hjl : J = l1.length := by omega
        go_wp2_with fail
        go_ret
        exact ⟨_, rfl, by have := HO.out; rw [hjl, Int.toNat_natCast] at this; exact Kd.R_mono this (fun _ _ => trivial), HW.out⟩
end Go.Proofs.Ytdailoccmjeceaa.PAll
