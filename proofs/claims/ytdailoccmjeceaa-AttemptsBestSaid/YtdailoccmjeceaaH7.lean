/- The reference's Valid: what its calls come to. Under no condition. -/
import Derived.Test.YtdailoccmjeceaaM1
import Derived.Test.YtdailoccmjeceaaT39
namespace Go.Proofs.Ytdailoccmjeceaa.PAll
open Go.RowKit Go.Lib Go.Sort Go.Proofs.YtdailoccmjeceaaW.PrintWords Go.Proofs.YtdailoccmjeceaaW.PrintLast Go.Proofs.YtdailoccmjeceaaW.PrintMore
set_option linter.unusedVariables false
set_option linter.unusedSimpArgs false

theorem validA_false {k m p q : Int} {l : List S38} (h : ¬ (0 ≤ k ∧ k ≤ 2 ∧ 1 ≤ m ∧ m ≤ 16 ∧ 0 ≤ p ∧ p ≤ 1099511627776 ∧ (k = 2 → 1 ≤ q ∧ q ≤ m) ∧ (k ≠ 2 → q = 0) ∧ (l.length : Int) ≤ m)) : validA k m p q l = false := by
  unfold validA rightB
  cases hv : decide (0 ≤ k ∧ k ≤ 2 ∧ 1 ≤ m ∧ m ≤ 16 ∧ 0 ≤ p ∧ p ≤ 1099511627776 ∧ (k = 2 → 1 ≤ q ∧ q ≤ m) ∧ (k ≠ 2 → q = 0)) with
  | false => rfl
  | true =>
    have h1 := of_decide_eq_true hv
    have h2 : decide ((l.length : Int) ≤ m) = false := decide_eq_false (fun h3 => h ⟨h1.1, h1.2.1, h1.2.2.1, h1.2.2.2.1, h1.2.2.2.2.1, h1.2.2.2.2.2.1, h1.2.2.2.2.2.2.1, h1.2.2.2.2.2.2.2, h3⟩)
    rw [h2]; rfl
theorem validA_ok {k m p q : Int} {l : List S38} (h : 0 ≤ k ∧ k ≤ 2 ∧ 1 ≤ m ∧ m ≤ 16 ∧ 0 ≤ p ∧ p ≤ 1099511627776 ∧ (k = 2 → 1 ≤ q ∧ q ≤ m) ∧ (k ≠ 2 → q = 0) ∧ (l.length : Int) ≤ m) : validA k m p q l = okL 0 1 l := by
  unfold validA rightB
  have h1 : decide (0 ≤ k ∧ k ≤ 2 ∧ 1 ≤ m ∧ m ≤ 16 ∧ 0 ≤ p ∧ p ≤ 1099511627776 ∧ (k = 2 → 1 ≤ q ∧ q ≤ m) ∧ (k ≠ 2 → q = 0)) = true := decide_eq_true ⟨h.1, h.2.1, h.2.2.1, h.2.2.2.1, h.2.2.2.2.1, h.2.2.2.2.2.1, h.2.2.2.2.2.2.1, h.2.2.2.2.2.2.2.1⟩
  rw [h1, decide_eq_true h.2.2.2.2.2.2.2.2]
  rfl
/-- the tick before -/
def prevT (l : List S38) (j : Int) : Int := if j = 0 then 0 else (rd_T38 l (j - 1)).f1
theorem rd38 (l : List S38) (j : Int) (h0 : 0 ≤ j) (h1 : j < l.length) : ∃ h : j.toNat < l.length, rd_T38 l j = l[j.toNat] := by
  have h : j.toNat < l.length := by omega
  exact ⟨h, by simp [rd_T38, List.getD_eq_getElem?_getD, h]⟩
theorem okL_step (l : List S38) (j : Int) (h0 : 0 ≤ j) (h1 : j < l.length) : okL (prevT l j) (j + 1) (l.drop j.toNat) = (decide ((rd_T38 l j).f0 = j + 1 ∧ prevT l j ≤ (rd_T38 l j).f1 ∧ 0 ≤ (rd_T38 l j).f1 ∧ (rd_T38 l j).f1 ≤ 1099511627776 ∧ 0 ≤ (rd_T38 l j).f2 ∧ (rd_T38 l j).f2 ≤ 100000000) && okL (prevT l (j + 1)) (j + 1 + 1) (l.drop (j + 1).toNat)) := by
  obtain ⟨h, e⟩ := rd38 l j h0 h1
  have e2 : (j + 1).toNat = j.toNat + 1 := by omega
  have e3 : prevT l (j + 1) = (rd_T38 l j).f1 := by
    unfold prevT
    rw [if_neg (by omega), show j + 1 - 1 = j from by omega]
  rw [e3, e2, List.drop_eq_getElem_cons h, okL, ← e]
theorem okL_bad {l : List S38} {j : Int} {r : Bool} (h0 : 0 ≤ j) (h1 : j < l.length) (hr : r = okL (prevT l j) (j + 1) (l.drop j.toNat)) (h : ¬ ((rd_T38 l j).f0 = j + 1 ∧ prevT l j ≤ (rd_T38 l j).f1 ∧ 0 ≤ (rd_T38 l j).f1 ∧ (rd_T38 l j).f1 ≤ 1099511627776 ∧ 0 ≤ (rd_T38 l j).f2 ∧ (rd_T38 l j).f2 ≤ 100000000)) : r = false := by
  rw [hr, okL_step l j h0 h1, decide_eq_false h]; rfl
theorem okL_good {l : List S38} {j : Int} {r : Bool} (h0 : 0 ≤ j) (h1 : j < l.length) (hr : r = okL (prevT l j) (j + 1) (l.drop j.toNat)) (h : (rd_T38 l j).f0 = j + 1 ∧ prevT l j ≤ (rd_T38 l j).f1 ∧ 0 ≤ (rd_T38 l j).f1 ∧ (rd_T38 l j).f1 ≤ 1099511627776 ∧ 0 ≤ (rd_T38 l j).f2 ∧ (rd_T38 l j).f2 ≤ 100000000) : r = okL (prevT l (j + 1)) (j + 1 + 1) (l.drop (j + 1).toNat) := by
  rw [hr, okL_step l j h0 h1, decide_eq_true h]; rfl
def timeB (t : Int) : Bool := decide (0 ≤ t ∧ t ≤ 1099511627776)
theorem time39 (t : Int) (W : World) : Calls Try.prog 39 #[.int .i64 t] W fun e w' => e = .returned (.bool (timeB t)) ∧ Drawn0 W w' :=
  assessorref52_time.calls t (timeB t) W (by
    unfold assessorref52_time.f timeB
    split
    · rename_i h; simp [h]
    · rename_i h; simp; omega)

set_option maxHeartbeats 8000000 in
set_option maxRecDepth 100000 in
theorem assessorref52_Valid.calls (a0_0 a0_1 a0_2 a0_3 : Int) (A1 : Option Addr) (c1 : Nat) (l1 : List S38) (r : Bool) (w : World) (hr1 : Kd.C k38 w A1 l1.length l1) (hc1 : l1.length ≤ c1) (h : assessorref52_Valid.f a0_0 a0_1 a0_2 a0_3 l1 = some r) :
    Calls Try.prog 24 #[.agg #[.int .i64 a0_0, .int .i64 a0_1, .int .i64 a0_2, .int .i64 a0_3], .slice A1 l1.length c1] w fun e w' => e = .returned (.bool r) ∧ Below w.heap.size w w' := by
  have hu23 := Try.underlying23
  have hu38 := Try.underlying38
  have HH := Aside0.mk (Option.some.inj h)
  have HR := Aside0.mk hr1
  clear h hr1
  go_enter Try.func24, Try.ntmps24
  go_wp2_with fail
  all_goals first
    | (go_ret
       have hv : r = false := HH.out.symm.trans (validA_false (by omega))
       exact ⟨by rw [hv]; rfl, (Below.refl _ _).alloc (Nat.le_refl _) _⟩)
    | skip
  refine (time39 _ _).mono ?_
  rintro e w1 ⟨rfl, ⟨nd, rfl⟩⟩
  cases hb : timeB a0_2 with
  | false =>
    have hbt : ¬ (0 ≤ a0_2 ∧ a0_2 ≤ 1099511627776) := of_decide_eq_false hb
    have HBT := Aside0.mk hbt
    clear hb hbt
    go_wp2_with fail
    go_ret
    have hv : r = false := HH.out.symm.trans (validA_false (by have := HBT.out; omega))
    exact ⟨by rw [hv]; rfl, pw_below_drewN ((Below.refl _ _).alloc (Nat.le_refl _) _) _⟩
  | true =>
    have hbt : 0 ≤ a0_2 ∧ a0_2 ≤ 1099511627776 := of_decide_eq_true hb
    have HBT := Aside0.mk hbt
    clear hb hbt
    go_wp2_with fail
    all_goals first
      | (go_ret
         have hv : r = false := HH.out.symm.trans (validA_false (by omega))
         exact ⟨by rw [hv]; rfl, pw_below_drewN ((Below.refl _ _).alloc (Nat.le_refl _) _) _⟩)
      | (go_ret
         have hz : ¬ a0_3 = 0 := bne_iff_ne.1 (And.right (by assumption : (a0_0 != 2) = true ∧ (a0_3 != 0) = true))
         have hv : r = false := HH.out.symm.trans (validA_false (by omega))
         exact ⟨by rw [hv]; rfl, pw_below_drewN ((Below.refl _ _).alloc (Nat.le_refl _) _) _⟩)
      | skip
    all_goals
      have h9 := HBT.out
      have hq : (a0_0 ≠ 2 → a0_3 = 0) := by
        intro h2
        first
          | (exfalso; omega)
          | (rcases (by assumption : (a0_0 != 2) = false ∨ (a0_3 != 0) = false) with h3 | h3
             · exact absurd (bne_eq_false_iff_eq.1 h3) h2
             · exact bne_eq_false_iff_eq.1 h3)
      have HV : Aside0 (r = okL (prevT l1 0) (0 + 1) (l1.drop (0 : Int).toNat)) := ⟨HH.out.symm.trans (validA_ok (by omega))⟩
      have HL : Aside0 (l1.length ≤ 16) := ⟨by omega⟩
      have HB0 : Aside0 (Below w.heap.size w ((w.alloc (Obj.cells #[.int .i64 a0_0, .int .i64 a0_1, .int .i64 a0_2, .int .i64 a0_3] 23)).drewN nd)) := ⟨pw_below_drewN ((Below.refl _ _).alloc (Nat.le_refl _) _) _⟩
      clear hq h9 HBT HH
      try subst a0_0
      go_loopw [5] (fun s5 wr => ∃ J : Int, 0 ≤ J ∧ J ≤ l1.length ∧ s5 = .int .i64 J ∧ Aside0 (r = okL (prevT l1 J) (J + 1) (l1.drop J.toNat)) ∧ Aside0 (Below w.heap.size w wr)) (fun s5 _ => l1.length - (intOf s5).toNat)
      case atStart => exact ⟨0, Int.le_refl _, by omega, rfl, HV, HB0⟩
      case round =>
        clear HV HB0
        obtain ⟨J, hJ0, hJ1, rfl, HV, HB⟩ := hrel
        by_cases hjz : J < (l1.length : Int)
        · have hjw : IntKind.i64.wrap (J + 1) = J + 1 := by have := HL.out; rw [Go.IntWalk.i64_in _ (by omega)]
          obtain ⟨ad, e0, hx0, hx1, hx2⟩ := at_T38 (Kd.C_below HR.out HB.out) J hJ0 hjz
          have HP : Aside0 (0 < J → IntKind.i64.wrap (J - 1) = J - 1 ∧ wr.cell? ⟨(ad.add ((J - 1).toNat * 3)).block, (ad.add ((J - 1).toNat * 3)).off + 1, none⟩ = some (.int .i64 (rd_T38 l1 (J - 1)).f1)) := ⟨fun hj => by
            obtain ⟨ad', e1, _, hx, _⟩ := at_T38 (Kd.C_below HR.out HB.out) (J - 1) (by omega) (by omega)
            cases e0; cases e1
            exact ⟨by have := HL.out; rw [Go.IntWalk.i64_in _ (by omega)], hx⟩⟩
          cases e0
          have HJ := Aside0.mk (And.intro hJ0 hjz)
          have HBs := HB.out.size
          have HBn : Aside0 (∀ q, Below w.heap.size w ((wr.alloc (Obj.cells #[.int .i64 (rd_T38 l1 J).f0, .int .i64 (rd_T38 l1 J).f1, .int .i64 (rd_T38 l1 J).f2] 38)).drewN q)) := ⟨fun q => pw_below_drewN (HB.out.alloc HB.out.size _) q⟩
          clear HBs
          generalize hX : rd_T38 l1 J = X at hx0 hx1 hx2 HBn
          have HX := Aside0.mk hX
          clear hX
          go_upto_region 9 with fail
          have hy0 : (wr.alloc (Obj.cells #[.int .i64 X.f0, .int .i64 X.f1, .int .i64 X.f2] 38)).cell? ⟨wr.heap.size, 0, none⟩ = some (.int .i64 X.f0) := by simp
          have hy1 : (wr.alloc (Obj.cells #[.int .i64 X.f0, .int .i64 X.f1, .int .i64 X.f2] 38)).cell? ⟨wr.heap.size, 1, none⟩ = some (.int .i64 X.f1) := by simp
          have hy2 : (wr.alloc (Obj.cells #[.int .i64 X.f0, .int .i64 X.f1, .int .i64 X.f2] 38)).cell? ⟨wr.heap.size, 2, none⟩ = some (.int .i64 X.f2) := by simp
          have HP2 : Aside0 (0 < J → IntKind.i64.wrap (J - 1) = J - 1 ∧ (wr.alloc (Obj.cells #[.int .i64 X.f0, .int .i64 X.f1, .int .i64 X.f2] 38)).cell? ⟨(ad.add ((J - 1).toNat * 3)).block, (ad.add ((J - 1).toNat * 3)).off + 1, none⟩ = some (.int .i64 (rd_T38 l1 (J - 1)).f1)) := ⟨fun hj => ⟨(HP.out hj).1, Lib.cell?_alloc_some _ (HP.out hj).2⟩⟩
          clear hx0 hx1 hx2 HP
          generalize (wr.alloc (Obj.cells #[.int .i64 X.f0, .int .i64 X.f1, .int .i64 X.f2] 38)) = w5 at hy0 hy1 hy2 HBn HP2 ⊢
          by_cases c1 : X.f0 = J + 1
          · have b1 : (X.f0 != J + 1) = false := bne_eq_false_iff_eq.2 c1
            have b1' : (X.f0 == J + 1) = true := beq_iff_eq.2 c1
            cases c2 : timeB X.f1 with
            | false =>
              have HF : Aside0 (¬ (0 ≤ X.f1 ∧ X.f1 ≤ 1099511627776)) := ⟨of_decide_eq_false c2⟩
              have ht : ∀ W, Calls Try.prog 39 #[.int .i64 X.f1] W fun e w' => e = .returned (.bool false) ∧ Drawn0 W w' := fun W => by rw [← c2]; exact time39 _ _
              clear c1 c2
              go_quiet (first | (go_at_call 39; refine (ht _).mono ?_; rintro e w' ⟨rfl, ⟨nd2, rfl⟩⟩; (try first | exact ⟨rfl, _, World.drewN_drewN _ _ _⟩ | exact ⟨rfl, _, Eq.trans (World.drewN_drewN _ _ _) (congrArg (World.drewN _) (Nat.add_assoc _ _ _))⟩)))
              go_wp2_with fail
              go_ret
              have hv : r = false := okL_bad HJ.out.1 HJ.out.2 HV.out (by rw [HX.out]; have z_ := HF.out; omega)
              exact ⟨by rw [hv]; rfl, HBn.out _⟩
            | true =>
              have hF2 : 0 ≤ X.f1 ∧ X.f1 ≤ 1099511627776 := of_decide_eq_true c2
              have HF2 := Aside0.mk (And.intro c1 hF2)
              have ht : ∀ W, Calls Try.prog 39 #[.int .i64 X.f1] W fun e w' => e = .returned (.bool true) ∧ Drawn0 W w' := fun W => by rw [← c2]; exact time39 _ _
              clear c1 c2 hF2
              by_cases c3 : 0 < J
              · have b3 : decide (0 < J) = true := decide_eq_true c3
                obtain ⟨hjm, hz⟩ := HP2.out c3
                obtain ⟨I, hI⟩ : ∃ I, I = J - 1 := ⟨_, rfl⟩
                rw [← hI] at hz
                have hI2 : IntKind.i64.wrap (J - 1) = I := hjm.trans hI.symm
                have p3 : (0 : Int) ≤ I := by omega
                have q3 : I < (l1.length : Int) := by omega
                have HI := Aside0.mk hI
                clear hI hjm
                generalize hY : (rd_T38 l1 I).f1 = Y at hz
                have HY := Aside0.mk hY
                clear hY
                by_cases c6 : X.f1 < Y
                · have b6 : decide (X.f1 < Y) = true := decide_eq_true c6
                  have HF : Aside0 (X.f1 < Y ∧ 0 < J) := ⟨c6, c3⟩
                  clear c3 c6
                  go_quiet (first | (go_at_call 39; refine (ht _).mono ?_; rintro e w' ⟨rfl, ⟨nd2, rfl⟩⟩; (try first | exact ⟨rfl, _, World.drewN_drewN _ _ _⟩ | exact ⟨rfl, _, Eq.trans (World.drewN_drewN _ _ _) (congrArg (World.drewN _) (Nat.add_assoc _ _ _))⟩)))
                  go_wp2_with fail
                  go_ret
                  have hv : r = false := okL_bad HJ.out.1 HJ.out.2 HV.out (by rw [HX.out]; have z_ := HF.out; unfold prevT; rw [if_neg (by omega), ← HI.out, HY.out]; omega)
                  exact ⟨by rw [hv]; rfl, HBn.out _⟩
                · have b6 : decide (X.f1 < Y) = false := decide_eq_false c6
                  have HF3 : Aside0 (prevT l1 J ≤ X.f1) := ⟨by unfold prevT; rw [if_neg (by omega), ← HI.out, HY.out]; omega⟩
                  clear c6
                  by_cases c4 : X.f2 < 0
                  · have HF := Aside0.mk c4
                    have b4 : decide (X.f2 < 0) = true := decide_eq_true c4
                    clear c4
                    go_quiet (first | (go_at_call 39; refine (ht _).mono ?_; rintro e w' ⟨rfl, ⟨nd2, rfl⟩⟩; (try first | exact ⟨rfl, _, World.drewN_drewN _ _ _⟩ | exact ⟨rfl, _, Eq.trans (World.drewN_drewN _ _ _) (congrArg (World.drewN _) (Nat.add_assoc _ _ _))⟩)))
                    go_wp2_with fail
                    go_ret
                    have hv : r = false := okL_bad HJ.out.1 HJ.out.2 HV.out (by rw [HX.out]; have z_ := HF.out; omega)
                    exact ⟨by rw [hv]; rfl, HBn.out _⟩
                  · have b4 : decide (X.f2 < 0) = false := decide_eq_false c4
                    by_cases c5 : 100000000 < X.f2
                    · have HF := Aside0.mk c5
                      have b5 : decide (100000000 < X.f2) = true := decide_eq_true c5
                      clear c4 c5
                      go_quiet (first | (go_at_call 39; refine (ht _).mono ?_; rintro e w' ⟨rfl, ⟨nd2, rfl⟩⟩; (try first | exact ⟨rfl, _, World.drewN_drewN _ _ _⟩ | exact ⟨rfl, _, Eq.trans (World.drewN_drewN _ _ _) (congrArg (World.drewN _) (Nat.add_assoc _ _ _))⟩)))
                      go_wp2_with fail
                      go_ret
                      have hv : r = false := okL_bad HJ.out.1 HJ.out.2 HV.out (by rw [HX.out]; have z_ := HF.out; omega)
                      exact ⟨by rw [hv]; rfl, HBn.out _⟩
                    · have HF := Aside0.mk (And.intro HF2.out (And.intro HF3.out (And.intro c4 c5)))
                      have b5 : decide (100000000 < X.f2) = false := decide_eq_false c5
                      clear c4 c5
                      go_quiet (first | (go_at_call 39; refine (ht _).mono ?_; rintro e w' ⟨rfl, ⟨nd2, rfl⟩⟩; (try first | exact ⟨rfl, _, World.drewN_drewN _ _ _⟩ | exact ⟨rfl, _, Eq.trans (World.drewN_drewN _ _ _) (congrArg (World.drewN _) (Nat.add_assoc _ _ _))⟩)))
                      go_wp2_with fail
                      go_roundw
                      case rel => exact ⟨J + 1, by omega, by omega, rfl, ⟨okL_good HJ.out.1 HJ.out.2 HV.out (by rw [HX.out]; have z_ := HF.out; omega)⟩, ⟨HBn.out _⟩⟩
                      case measure => simp [intOf]; omega
              · have b3 : decide (0 < J) = false := decide_eq_false c3
                have HF3 : Aside0 (prevT l1 J ≤ X.f1) := ⟨by unfold prevT; rw [if_pos (by omega)]; have := HF2.out; omega⟩
                by_cases c4 : X.f2 < 0
                · have HF := Aside0.mk c4
                  have b4 : decide (X.f2 < 0) = true := decide_eq_true c4
                  clear c4
                  go_quiet (first | (go_at_call 39; refine (ht _).mono ?_; rintro e w' ⟨rfl, ⟨nd2, rfl⟩⟩; (try first | exact ⟨rfl, _, World.drewN_drewN _ _ _⟩ | exact ⟨rfl, _, Eq.trans (World.drewN_drewN _ _ _) (congrArg (World.drewN _) (Nat.add_assoc _ _ _))⟩)))
                  go_wp2_with fail
                  go_ret
                  have hv : r = false := okL_bad HJ.out.1 HJ.out.2 HV.out (by rw [HX.out]; have z_ := HF.out; omega)
                  exact ⟨by rw [hv]; rfl, HBn.out _⟩
                · have b4 : decide (X.f2 < 0) = false := decide_eq_false c4
                  by_cases c5 : 100000000 < X.f2
                  · have HF := Aside0.mk c5
                    have b5 : decide (100000000 < X.f2) = true := decide_eq_true c5
                    clear c4 c5
                    go_quiet (first | (go_at_call 39; refine (ht _).mono ?_; rintro e w' ⟨rfl, ⟨nd2, rfl⟩⟩; (try first | exact ⟨rfl, _, World.drewN_drewN _ _ _⟩ | exact ⟨rfl, _, Eq.trans (World.drewN_drewN _ _ _) (congrArg (World.drewN _) (Nat.add_assoc _ _ _))⟩)))
                    go_wp2_with fail
                    go_ret
                    have hv : r = false := okL_bad HJ.out.1 HJ.out.2 HV.out (by rw [HX.out]; have z_ := HF.out; omega)
                    exact ⟨by rw [hv]; rfl, HBn.out _⟩
                  · have HF := Aside0.mk (And.intro HF2.out (And.intro HF3.out (And.intro c4 c5)))
                    have b5 : decide (100000000 < X.f2) = false := decide_eq_false c5
                    clear c4 c5
                    go_quiet (first | (go_at_call 39; refine (ht _).mono ?_; rintro e w' ⟨rfl, ⟨nd2, rfl⟩⟩; (try first | exact ⟨rfl, _, World.drewN_drewN _ _ _⟩ | exact ⟨rfl, _, Eq.trans (World.drewN_drewN _ _ _) (congrArg (World.drewN _) (Nat.add_assoc _ _ _))⟩)))
                    go_wp2_with fail
                    go_roundw
                    case rel => exact ⟨J + 1, by omega, by omega, rfl, ⟨okL_good HJ.out.1 HJ.out.2 HV.out (by rw [HX.out]; have z_ := HF.out; omega)⟩, ⟨HBn.out _⟩⟩
                    case measure => simp [intOf]; omega
          · have b1 : (X.f0 != J + 1) = true := bne_iff_ne.2 c1
            have b1' : (X.f0 == J + 1) = false := beq_eq_false_iff_ne.2 c1
            have HF := Aside0.mk c1
            clear c1
            go_quiet (fail)
            go_wp2_with fail
            go_ret
            have hv : r = false := okL_bad HJ.out.1 HJ.out.2 HV.out (by rw [HX.out]; have z_ := HF.out; omega)
            exact ⟨by rw [hv]; rfl, HBn.out _⟩
        · have hjl : J = l1.length := by omega
          have HE : Aside0 (r = true) := ⟨by rw [HV.out, hjl, Int.toNat_natCast, List.drop_length]; rfl⟩
          go_wp2_with fail
          go_ret
          exact ⟨by rw [HE.out]; rfl, HB.out⟩
end Go.Proofs.Ytdailoccmjeceaa.PAll
