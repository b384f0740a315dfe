/- The program's types.Same: what its calls come to. Under no condition. -/
import Derived.Test.YtigkoknabliboaaH8
namespace Go.Proofs.Ytigkoknabliboaa.PAll
open Go.RowKit Go.Proofs.YtigkoknabliboaaW.PrintWords Go.Proofs.YtigkoknabliboaaW.PrintLast Go.Proofs.YtigkoknabliboaaW.PrintMore
set_option linter.unusedVariables false
set_option linter.unusedSimpArgs false

def eqT (a b : S27) : Bool := a.f0 == b.f0 && (a.f1 == b.f1 && (a.f2.toList == b.f2.toList))
def eqF (a b : S76) : Bool := a.f0.toList == b.f0.toList && eqT a.f1 b.f1
def eqFs : List S76 → List S76 → Bool
  | [], [] => true
  | x :: l, y :: m => eqF x y && eqFs l m
  | _, _ => false
/-- slices.Equal of fields -/
theorem fields_loop (l m : List S76) (hl : l.length = m.length) (hb : l.length ≤ 9223372036854775807) (d : Nat) : ∀ (k j : Nat), j ≤ l.length → l.length - j = d → d < k → api_Field.l0 k l m (l.length : Int) (j : Int) = some (eqFs (l.drop j) (m.drop j)) := by
  induction d with
  | zero =>
    intro k j hj hd hk
    obtain ⟨k, rfl⟩ : ∃ q, k = q + 1 := ⟨k - 1, by omega⟩
    simp only [api_Field.l0]
    rw [if_neg (by omega), List.drop_eq_nil_of_le (by omega), List.drop_eq_nil_of_le (by omega), eqFs]
  | succ d ih =>
    intro k j hj hd hk
    obtain ⟨k, rfl⟩ : ∃ q, k = q + 1 := ⟨k - 1, by omega⟩
    have hlt : j < l.length := by omega
    have hlt2 : j < m.length := by omega
    simp only [api_Field.l0]
    rw [if_pos (by omega), if_pos (by omega), if_pos (by omega), if_pos (by omega)]
    have e1 : rd_T76 l (j : Int) = l[j] := by simp [rd_T76, List.getD_eq_getElem?_getD, hlt]
    have e2 : rd_T76 m (j : Int) = m[j] := by simp [rd_T76, List.getD_eq_getElem?_getD, hlt2]
    rw [e1, e2, List.drop_eq_getElem_cons hlt, List.drop_eq_getElem_cons hlt2, eqFs]
    have hw : wrap64 ((j : Int) + 1) = ((j + 1 : Nat) : Int) := by unfold wrap64; omega
    rw [hw, ih k (j + 1) (by omega) (by omega) (by omega)]
    have hcond : (!l[j].f0.toList == m[j].f0.toList || (!l[j].f1.f0 == m[j].f1.f0 || (!l[j].f1.f1 == m[j].f1.f1 || !l[j].f1.f2.toList == m[j].f1.f2.toList))) = !eqF l[j] m[j] := by
      unfold eqF eqT
      simp only [Bool.not_and]
    rw [hcond]
    cases eqF l[j] m[j] <;> simp
theorem fields_f (l m : List S76) (hb : l.length ≤ 9223372036854775807) : api_Field.f (l.length + 1) l m = some (decide (l.length = m.length) && eqFs l m) := by
  unfold api_Field.f
  by_cases h : l.length = m.length
  · rw [if_pos (by omega), decide_eq_true h, Bool.true_and]
    have := fields_loop l m h hb l.length (l.length + 1) 0 (by omega) (by omega) (by omega)
    simpa using this
  · rw [if_neg (by omega), decide_eq_false h, Bool.false_and]

theorem record_any (A0 : Option Addr) (c0 : Nat) (l0 : List S63) (name : ByteArray) (w : World) (hr0 : Kd.C k63 w A0 l0.length l0) (hc0 : l0.length ≤ c0) :
    Calls Try.prog 38 #[.slice A0 l0.length c0, .string name] w fun e w' => ∃ (f0 : ByteArray) (fs : List S76) (A : Option Addr) (c : Nat) (ok : Bool), e = .returned (.tuple #[.agg #[.string f0, .slice A fs.length c], .bool ok]) ∧ fs.length ≤ c ∧ k76.C w' A fs.length fs ∧ Below w.heap.size w w' ∧ (0 ≤ recIdx l0 name → fs = fieldsOf l0 name) := by
  by_cases hi : recIdx l0 name < 0
  · refine (record_none A0 c0 l0 name w hr0 hc0 hi).mono ?_
    rintro e w' ⟨rfl, hb⟩
    exact ⟨⟨#[]⟩, [], none, 0, false, rfl, Nat.le_refl _, ⟨rfl, by simp, fun h => absurd h (by simp)⟩, hb, fun h => absurd h (by omega)⟩
  · obtain ⟨m, hm, him, _, _⟩ := idx_some _ _ (Int.not_lt.1 hi)
    have hi' : recIdx l0 name = (m : Int) := him
    refine (record_some A0 c0 l0 name m hm w hr0 hc0 hi').mono ?_
    rintro e w' ⟨A, c, rfl, hl, hk, hb⟩
    refine ⟨_, _, A, c, true, rfl, hl, hk, hb, fun _ => ?_⟩
    unfold fieldsOf
    rw [hi']
    simp [List.getD_eq_getElem?_getD, hm]
theorem valid4 {l : List S63} {k n : Int} {s : ByteArray} (h : validS l ⟨k, n, s⟩ = true) (h4 : k = 4) : 0 ≤ recIdx l s := by
  subst h4
  unfold validS validT at h
  simp at h
  exact h.2
/-- types.Same -/
def same (a : S27) (ra : List S63) (b : S27) (rb : List S63) : Bool :=
  validS ra a && (validS rb b && (eqT a b && (decide (a.f0 ≠ 4) || (decide ((fieldsOf ra a.f2).length = (fieldsOf rb b.f2).length) && eqFs (fieldsOf ra a.f2) (fieldsOf rb b.f2)))))
def types_Same.f (a0_0 a0_1 : Int) (a0_2 : ByteArray) (l1 : List S63) (a2_0 a2_1 : Int) (a2_2 : ByteArray) (l3 : List S63) : Option Bool := some (same ⟨a0_0, a0_1, a0_2⟩ l1 ⟨a2_0, a2_1, a2_2⟩ l3)
attribute [local go_sem high] eqA27
set_option maxHeartbeats 4000000 in
set_option maxRecDepth 100000 in
theorem types_Same.calls (a0_0 : Int) (a0_1 : Int) (a0_2 : ByteArray) (A1 : Option Addr) (c1 : Nat) (l1 : List (S63)) (a2_0 : Int) (a2_1 : Int) (a2_2 : ByteArray) (A3 : Option Addr) (c3 : Nat) (l3 : List (S63)) (r : Bool) (w : World) (hr1 : Kd.C k63 w A1 l1.length l1) (hc1 : l1.length ≤ c1) (hr3 : Kd.C k63 w A3 l3.length l3) (hc3 : l3.length ≤ c3) (h : types_Same.f a0_0 a0_1 a0_2 l1 a2_0 a2_1 a2_2 l3 = some r) :
    Calls Try.prog 20 #[.agg #[.int .i64 a0_0, .int .i64 a0_1, .string a0_2], .slice A1 l1.length c1, .agg #[.int .i64 a2_0, .int .i64 a2_1, .string a2_2], .slice A3 l3.length c3] w fun e w' => e = .returned (.bool r) ∧ Below w.heap.size w w' := by
  have hs : same ⟨a0_0, a0_1, a0_2⟩ l1 ⟨a2_0, a2_1, a2_2⟩ l3 = r := Option.some.inj h
  have HS := Aside0.mk hs
  have HR1 := Aside0.mk hr1
  have HC1 := Aside0.mk hc1
  have HR3 := Aside0.mk hr3
  have HC3 := Aside0.mk hc3
  clear h hs hr1 hc1 hr3 hc3
  cases hva : validS l1 ⟨a0_0, a0_1, a0_2⟩ with
  | false =>
    have HV : Aside0 (types_Valid.f a0_0 a0_1 a0_2 l1 = some false) := ⟨congrArg some hva⟩
    have HF : Aside0 (r = false) := ⟨by rw [← HS.out]; unfold same; rw [hva]; rfl⟩
    clear hva
    go_enter Try.func20, Try.ntmps20
    go_wp2_with fail
    refine (types_Valid.calls _ _ _ _ _ _ _ _ (Kd.C_below HR1.out (((Below.refl _ _).alloc (Nat.le_refl _) _).alloc (by simp) _)) HC1.out HV.out).mono ?_
    rintro e w1 ⟨rfl, hb1⟩
    have HB : Aside0 (Below w.heap.size w w1) := ⟨(((Below.refl _ _).alloc (Nat.le_refl _) _).alloc (by simp) _).trans (hb1.mono (by simp; omega))⟩
    clear hb1
    go_wp2
    go_ret
    exact ⟨by rw [HF.out]; rfl, HB.out⟩
  | true =>
    have HV : Aside0 (types_Valid.f a0_0 a0_1 a0_2 l1 = some true) := ⟨congrArg some hva⟩
    have HVa := Aside0.mk hva
    clear hva
    cases hvb : validS l3 ⟨a2_0, a2_1, a2_2⟩ with
    | false =>
      have HV2 : Aside0 (types_Valid.f a2_0 a2_1 a2_2 l3 = some false) := ⟨congrArg some hvb⟩
      have HF : Aside0 (r = false) := ⟨by rw [← HS.out]; unfold same; rw [hvb]; simp⟩
      clear hvb
      go_enter Try.func20, Try.ntmps20
      go_wp2_with fail
      refine (types_Valid.calls _ _ _ _ _ _ _ _ (Kd.C_below HR1.out (((Below.refl _ _).alloc (Nat.le_refl _) _).alloc (by simp) _)) HC1.out HV.out).mono ?_
      rintro e w1 ⟨rfl, hb1⟩
      obtain ⟨hc, hf⟩ := bcell hb1
      have HB : Aside0 (Below w.heap.size w w1) := ⟨(((Below.refl _ _).alloc (Nat.le_refl _) _).alloc (by simp) _).trans (hb1.mono (by simp; omega))⟩
      clear hb1
      go_wp2_with fail
      refine (types_Valid.calls _ _ _ _ _ _ _ _ (Kd.C_below HR3.out HB.out) HC3.out HV2.out).mono ?_
      rintro e w2 ⟨rfl, hb2⟩
      have HB2 : Aside0 (Below w.heap.size w w2) := ⟨HB.out.trans (hb2.mono HB.out.size)⟩
      clear hb2 hc hf
      go_wp2
      go_ret
      exact ⟨by rw [HF.out]; rfl, HB2.out⟩
    | true =>
      have HV2 : Aside0 (types_Valid.f a2_0 a2_1 a2_2 l3 = some true) := ⟨congrArg some hvb⟩
      have HVb := Aside0.mk hvb
      clear hvb
      go_enter Try.func20, Try.ntmps20
      go_wp2_with fail
      refine (types_Valid.calls _ _ _ _ _ _ _ _ (Kd.C_below HR1.out (((Below.refl _ _).alloc (Nat.le_refl _) _).alloc (by simp) _)) HC1.out HV.out).mono ?_
      rintro e w1 ⟨rfl, hb1⟩
      obtain ⟨hc, hf⟩ := bcell hb1
      have hz1 : w.heap.size + 1 < w1.heap.size := by have := hb1.size; simp at this; omega
      have HB : Aside0 (Below w.heap.size w w1) := ⟨(((Below.refl _ _).alloc (Nat.le_refl _) _).alloc (by simp) _).trans (hb1.mono (by simp; omega))⟩
      clear hb1
      go_wp2_with fail
      refine (types_Valid.calls _ _ _ _ _ _ _ _ (Kd.C_below HR3.out HB.out) HC3.out HV2.out).mono ?_
      rintro e w2 ⟨rfl, hb2⟩
      have HB2 : Aside0 (Below w.heap.size w w2) := ⟨HB.out.trans (hb2.mono HB.out.size)⟩
      have hy : ∀ b o, b ≤ w.heap.size + 1 → w.heap.size ≤ b → w2.cell? ⟨b, o, none⟩ = ((w.alloc (.cells #[.int .i64 a0_0, .int .i64 a0_1, .string a0_2] 27)).alloc (.cells #[.int .i64 a2_0, .int .i64 a2_1, .string a2_2] 27)).cell? ⟨b, o, none⟩ := fun b o h1 h2 => by
        rw [hb2.cell (p := ⟨b, o, none⟩) (by show b < w1.heap.size; omega)]
        exact hc b o (by simp; omega)
      have x0 := hy w.heap.size 0 (by omega) (by omega)
      have x1 := hy w.heap.size 1 (by omega) (by omega)
      have x2 := hy w.heap.size 2 (by omega) (by omega)
      have y0 := hy (w.heap.size + 1) 0 (by omega) (by omega)
      have y1 := hy (w.heap.size + 1) 1 (by omega) (by omega)
      have y2 := hy (w.heap.size + 1) 2 (by omega) (by omega)
      simp at x0 x1 x2 y0 y1 y2
      have hz2 : w.heap.size + 1 < w2.heap.size := by have := hb2.size; omega
      clear hb2 hc hf hy
      cases heq : eqT ⟨a0_0, a0_1, a0_2⟩ ⟨a2_0, a2_1, a2_2⟩ with
      | false =>
        have HF : Aside0 (r = false) := ⟨by rw [← HS.out]; unfold same; rw [heq]; simp⟩
        unfold eqT at heq
        dsimp only at heq
        go_wp2_with fail
        go_ret
        exact ⟨by rw [HF.out]; rfl, HB2.out⟩
      | true =>
        have HEq := Aside0.mk heq
        unfold eqT at heq
        dsimp only at heq
        go_wp2_with fail
        refine (record_any _ _ _ _ _ (Kd.C_below HR1.out HB2.out) HC1.out).mono ?_
        rintro e w3 ⟨f0, fs, A, c, ok, rfl, hl, hk, hb3, hfs⟩
        have HL := Aside0.mk hl
        have HK := Aside0.mk hk
        have HFs := Aside0.mk hfs
        have HB3 : Aside0 (Below w.heap.size w w3) := ⟨HB2.out.trans (hb3.mono HB2.out.size)⟩
        replace x0 := pw_cell_below hb3 x0
        replace x1 := pw_cell_below hb3 x1
        replace x2 := pw_cell_below hb3 x2
        replace y0 := pw_cell_below hb3 y0
        replace y1 := pw_cell_below hb3 y1
        replace y2 := pw_cell_below hb3 y2
        have hz3 : w.heap.size + 1 < w3.heap.size := by have := hb3.size; omega
        have hz7 : w.heap.size < w3.heap.size := by omega
        clear hb3 hl hk hfs heq
        go_wp2_with fail
        refine (record_any _ _ _ _ _ (Kd.C_below HR3.out (HB3.out.alloc HB3.out.size _)) HC3.out).mono ?_
        rintro e w4 ⟨g0, gs, B, d, ok2, rfl, hl, hk, hb4, hgs⟩
        have HL2 := Aside0.mk hl
        have HK2 := Aside0.mk hk
        have HGs := Aside0.mk hgs
        have HB34 : Aside0 (Below w3.heap.size w3 w4) := ⟨((Below.refl _ _).alloc (Nat.le_refl _) _).trans (hb4.mono (by simp))⟩
        have HB4 : Aside0 (Below w.heap.size w w4) := ⟨HB3.out.trans (HB34.out.mono HB3.out.size)⟩
        replace x0 := pw_cell_below HB34.out x0
        replace x1 := pw_cell_below HB34.out x1
        replace x2 := pw_cell_below HB34.out x2
        replace y0 := pw_cell_below HB34.out y0
        replace y1 := pw_cell_below HB34.out y1
        replace y2 := pw_cell_below HB34.out y2
        have z0 : w4.cell? ⟨w3.heap.size, 0, none⟩ = some (.string f0) := by rw [hb4.cell (by simp)]; simp
        have z1 : w4.cell? ⟨w3.heap.size, 1, none⟩ = some (.slice A fs.length c) := by rw [hb4.cell (by simp)]; simp
        have hz4 : w.heap.size + 1 < w4.heap.size := by have := HB34.out.size; omega
        have hz6 : w.heap.size < w4.heap.size := by omega
        have hz5 : w3.heap.size < w4.heap.size := by have := hb4.size; simp at this; omega
        clear hb4 hl hk hgs
        by_cases h4 : a0_0 = 4
        · have e4 : (a0_0 != 4) = false := by simp [h4]
          have H4 := Aside0.mk h4
          clear h4
          go_wp2_with fail
          refine (api_Field.calls (fs.length + 1) A c fs B d gs _ _ (Kd.C_below HK.out (HB34.out.alloc HB34.out.size _)) HL.out (Kd.C_below HK2.out ((Below.refl _ _).alloc (Nat.le_refl _) _)) HL2.out (fields_f fs gs HK.out.2.1)).mono ?_
          rintro e w5 ⟨rfl, ⟨q, rfl⟩⟩
          have HF : Aside0 (r = (decide (fs.length = gs.length) && eqFs fs gs)) := ⟨by
            have e0 : a0_0 = a2_0 := by have := HEq.out; unfold eqT at this; simp at this; exact this.1
            rw [← HS.out]
            unfold same
            rw [HVa.out, HVb.out, HEq.out, HFs.out (valid4 HVa.out H4.out), HGs.out (valid4 HVb.out (e0 ▸ H4.out))]
            simp [H4.out]⟩
          generalize hq : (decide (fs.length = gs.length) && eqFs fs gs) = bb at HF ⊢
          clear hq
          go_wp2_with fail
          go_ret
          exact ⟨by rw [HF.out]; rfl, pw_below_drewN (HB4.out.alloc HB4.out.size _) _⟩
        · have e4 : (a0_0 != 4) = true := by simp [h4]
          have HF : Aside0 (r = true) := ⟨by
            rw [← HS.out]
            unfold same
            rw [HVa.out, HVb.out, HEq.out]
            simp [h4]⟩
          clear h4
          go_wp2_with fail
          go_ret
          exact ⟨by rw [HF.out]; rfl, HB4.out.alloc HB4.out.size _⟩
end Go.Proofs.Ytigkoknabliboaa.PAll
