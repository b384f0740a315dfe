/- tree.Path: the path of the node with a number. -/
import Derived.Test.YtbheobngeocdfaaG1
namespace Go.Proofs.Ytbheobngeocdfaa.PAll
open Go.RowKit Go.Proofs.YtbheobngeocdfaaW.PrintWords Go.Proofs.YtbheobngeocdfaaW.PrintLast Go.Proofs.YtbheobngeocdfaaW.PrintMore
set_option linter.unusedVariables false
set_option linter.unusedSimpArgs false

mutual
/-- the path of the node with the number m -/
def path24 : S24 → Nat → List Int
  | ⟨_, _, _, _, ks⟩, m => match m with | 0 => [] | m + 1 => pathL24 ks 0 m
def pathL24 : List S24 → Int → Nat → List Int
  | [], _, _ => []
  | k :: ks, i, m => if m < (pre24 k).length then i :: path24 k m else pathL24 ks (i + 1) (m - (pre24 k).length)
end
theorem path24_zero (x : S24) : path24 x 0 = [] := by cases x; simp [path24]
theorem path24_succ (x : S24) (m : Nat) : path24 x (m + 1) = pathL24 x.f4 0 m := by cases x; simp [path24]
theorem pathL24_drop {xs : List S24} {j : Nat} (h : j < xs.length) (i : Int) (m : Nat) : pathL24 (xs.drop j) i m = if m < (pre24 xs[j]).length then i :: path24 xs[j] m else pathL24 (xs.drop (j + 1)) (i + 1) (m - (pre24 xs[j]).length) := by
  rw [List.drop_eq_getElem_cons h]; simp [pathL24]
theorem preL24_drop {xs : List S24} {j : Nat} (h : j < xs.length) : (preL24 (xs.drop j)).length = (pre24 xs[j]).length + (preL24 (xs.drop (j + 1))).length := by
  rw [List.drop_eq_getElem_cons h]; simp [preL24]
theorem length_preL24_take (xs : List S24) (j : Nat) : (preL24 xs).length = (preL24 (xs.take j)).length + (preL24 (xs.drop j)).length := by
  rw [← List.length_append, ← preL24_append, List.take_append_drop]

set_option maxRecDepth 100000 in
set_option maxHeartbeats 8000000 in
theorem Path_calls (T : S24) (hn : (pre24 T).length < 1099511627776) (A : Option Addr) (c : Nat) (number : Int) (w : World) (hC : k24.C w A T.f4.length T.f4) (hc : T.f4.length ≤ c) :
    Calls Try.prog 26 #[val24 T A c, .int .i64 number] w fun e w' => ∃ v, e = .returned (.tuple #[v, .bool (decide (0 ≤ number) && decide (number < (pre24 T).length))]) ∧ Kd.R (Kd.int .i64) 3 w' w.heap.size (fun _ => True) v (if 0 ≤ number ∧ number < (pre24 T).length then path24 T number.toNat else []) ∧ Below w.heap.size w w' := by
  have HN := Aside0.mk hn
  clear hn
  have hu24 := Try.underlying24
  have hu22 := Try.underlying22
  have hu33 := Try.underlying33
  simp only [val24]
  have HX := Aside0.mk (fun w' (h : Below w.heap.size w w') => Count_calls T A c w' (Kd.C_below hC h) hc (by have := HN.out; omega))
  simp only [val24] at HX
  by_cases h0 : number < 0
  · have h0b : decide (number < 0) = true := by simp [h0]
    have e1 : decide (0 ≤ number) = false := by simp; omega
    have e2 : (if 0 ≤ number ∧ number < ((pre24 T).length : Int) then path24 T number.toNat else []) = [] := by rw [if_neg]; omega
    rw [e1, e2, Bool.false_and]
    clear h0 e1 e2
    go_enter Try.func26, Try.ntmps26
    go_wp2_with fail
    refine bodyPost_ret (results_tmp2 rfl _ _ _) rfl ?_
    exact ⟨_, rfl, Kd.R_nil _ _ _ _ _, (Below.refl w.heap.size w).alloc (Nat.le_refl _) _⟩
  · have h0b : decide (number < 0) = false := by simp; omega
    obtain ⟨m, rfl⟩ : ∃ m : Nat, number = (m : Int) := ⟨number.toNat, by omega⟩
    by_cases h1 : m < (pre24 T).length
    · have e1 : (decide (0 ≤ (m : Int)) && decide ((m : Int) < ((pre24 T).length : Int))) = true := by simp; omega
      have e2 : (if 0 ≤ (m : Int) ∧ (m : Int) < ((pre24 T).length : Int) then path24 T (m : Int).toNat else []) = path24 T m := by rw [if_pos (by omega)]; simp
      rw [e1, e2]
      have h1b : ((pre24 T).length ≤ m) = False := by simp; omega
      have H1 := Aside0.mk h1
      have HC := Aside0.mk hC
      have HCC := Aside0.mk hc
      clear e1 e2 h0 h1 hC hc
      go_enter Try.func26, Try.ntmps26
      go_wp2_with fail
      refine (HX.out _ ((Below.refl w.heap.size w).alloc (Nat.le_refl _) _)).mono ?_
      clear HX
      rintro e w1 ⟨rfl, hb⟩
      have HB := Aside0.mk (((Below.refl w.heap.size w).alloc (Nat.le_refl _) (.cells #[.int .i64 T.f0, .string T.f1, .int .i64 T.f2, .int .i64 T.f3, .slice A T.f4.length c] 24)).trans (hb.mono (by simp)))
      have HBN := Aside0.mk (blk_below (blk_new w (.cells #[.int .i64 T.f0, .string T.f1, .int .i64 T.f2, .int .i64 T.f3, .slice A T.f4.length c] 24)) hb)
      clear hb
      go_wp2_with fail
      clear h0b h1b
      go_loopw [6, 1] (fun p q wr => ∃ (v : Value) (x : S24) (o : Nat) (acc : List Int) (A : Option Addr) (c : Nat), v = p ∧ q = .int .i64 (o : Int) ∧ Aside0 (wr.heap[w.heap.size]? = some (.cells #[.int .i64 x.f0, .string x.f1, .int .i64 x.f2, .int .i64 x.f3, .slice A x.f4.length c] 24 (0, 0))) ∧ Aside0 (k24.C w A x.f4.length x.f4) ∧ Aside0 (x.f4.length ≤ c) ∧ Aside0 (acc ++ path24 x o = path24 T m) ∧ Aside0 (o < (pre24 x).length ∧ (pre24 x).length ≤ (pre24 T).length ∧ acc.length + o ≤ m) ∧ Aside0 (Kd.R (Kd.int .i64) 3 wr w.heap.size (fun k => w.heap.size < k) v acc) ∧ Aside0 (Below w.heap.size w wr))
        (fun p q wr => (intOf q).toNat)
      case atStart => exact ⟨_, T, m, [], A, c, rfl, rfl, HBN, HC, HCC, ⟨rfl⟩, ⟨H1.out, Nat.le_refl _, by simp⟩, ⟨Kd.R_nil _ _ _ _ _⟩, HB⟩
      case round =>
        clear HBN HB HC HCC
        obtain ⟨v, x, o, acc, A, c, rfl, rfl, HBN, HC, HCC, HP, HO, HR, HB⟩ := hrel
        cases o with
        | zero =>
          go_wp2_with fail
          refine bodyPost_ret (results_tmp2 rfl _ _ _) rfl ?_
          refine ⟨_, rfl, ?_, HB.out⟩
          have e : acc = path24 T m := by rw [← HP.out, path24_zero, List.append_nil]
          rw [← e]
          exact Kd.R_mono HR.out (fun _ _ => trivial)
        | succ o =>
          have hk : wr.cell? ⟨w.heap.size, 4, none⟩ = some (.slice A x.f4.length c) := (blk_cell HBN.out 4).trans rfl
          obtain ⟨O, hO⟩ : ∃ O : Int, O = ((o + 1 : Nat) : Int) := ⟨_, rfl⟩
          rw [← hO]
          have hlt : (0 : Int) < O := by omega
          have hw : wrap64 (O - 1) = (o : Int) := by have := HO.out; have := HN.out; unfold wrap64; omega
          have HOO := Aside0.mk hO
          clear hO
          go_wp2_with fail
          clear hk hlt
          go_loopw [25, 1, 6] (fun p q r wr => ∃ (j m2 : Nat), p = .int .i64 (j : Int) ∧ q = .int .i64 (m2 : Int) ∧ r = v ∧ Aside0 (j ≤ x.f4.length) ∧ Aside0 (acc ++ pathL24 (x.f4.drop j) (j : Int) m2 = path24 T m) ∧ Aside0 (m2 < (preL24 (x.f4.drop j)).length ∧ m2 ≤ o) ∧ Aside0 (wr.heap[w.heap.size]? = some (.cells #[.int .i64 x.f0, .string x.f1, .int .i64 x.f2, .int .i64 x.f3, .slice A x.f4.length c] 24 (0, 0))) ∧ Aside0 (Kd.R (Kd.int .i64) 3 wr w.heap.size (fun k => w.heap.size < k) v acc) ∧ Aside0 (Below w.heap.size w wr))
            (fun p q r wr => x.f4.length - (intOf p).toNat)
          case atStart =>
            refine ⟨0, o, rfl, ?_, rfl, ⟨Nat.zero_le _⟩, ⟨?_⟩, ⟨?_, Nat.le_refl _⟩, HBN, HR, HB⟩
            · first | rfl | rw [hw]
            · rw [← HP.out, path24_succ]; rfl
            · have := HO.out.1; rw [pre24_eq] at this; simpa using this
          case round =>
            clear HBN HB HR hw
            obtain ⟨j, m2, rfl, rfl, hrv, HJ, HQ, HM, HBN, HR, HB⟩ := hrel
            subst hrv
            have hj : j < x.f4.length := by
              rcases Nat.lt_or_ge j x.f4.length with h | h
              · exact h
              · have := HM.out.1; rw [List.drop_eq_nil_of_le h] at this; simp [preL24] at this
            have hj0 : (0 : Int) ≤ (j : Int) := by omega
            have hj1 : (j : Int) < (x.f4.length : Int) := by omega
            obtain ⟨ad2, A4, c4, rfl, e0, e1, e2, e3, e4, el, eC⟩ := elem24 HC.out HB.out j hj
            have HE := Aside0.mk eC
            have HEL := Aside0.mk el
            have HKL : Aside0 ((pre24 x.f4[j]).length ≤ (preL24 x.f4).length) := ⟨pre_mem24 hj⟩
            have HPX : Aside0 ((preL24 x.f4).length + 1 ≤ (pre24 T).length) := ⟨by have := HO.out.2.1; rw [pre24_eq] at this; simpa using this⟩
            clear eC el
            go_wp2_with fail
            have hB2 := HB.out.alloc HB.out.size (.cells #[.int .i64 x.f4[j].f0, .string x.f4[j].f1, .int .i64 x.f4[j].f2, .int .i64 x.f4[j].f3, .slice A4 x.f4[j].f4.length c4] 24)
            have hX := Count_calls x.f4[j] A4 c4 (wr.alloc (.cells #[.int .i64 x.f4[j].f0, .string x.f4[j].f1, .int .i64 x.f4[j].f2, .int .i64 x.f4[j].f3, .slice A4 x.f4[j].f4.length c4] 24)) (Kd.C_below HE.out hB2) HEL.out (by have := HKL.out; have := HPX.out; have := HN.out; omega)
            simp only [val24] at hX
            refine hX.mono ?_
            clear hX
            rintro e w3 ⟨rfl, hb⟩
            have HB3 := Aside0.mk (hB2.trans (hb.mono hB2.size))
            have HBN3 := Aside0.mk (blk_below (blk_alloc HBN.out _) hb)
            have HBK3 := Aside0.mk (blk_below (blk_new wr (.cells #[.int .i64 x.f4[j].f0, .string x.f4[j].f1, .int .i64 x.f4[j].f2, .int .i64 x.f4[j].f3, .slice A4 x.f4[j].f4.length c4] 24)) hb)
            have HR3 := Aside0.mk (Kd.R_below (Kd.R_alloc HR.out (.cells #[.int .i64 x.f4[j].f0, .string x.f4[j].f1, .int .i64 x.f4[j].f2, .int .i64 x.f4[j].f3, .slice A4 x.f4[j].f4.length c4] 24)) hb)
            have HSZ : Aside0 (w.heap.size < wr.heap.size) := ⟨(Array.getElem?_eq_some_iff.1 HBN.out).1⟩
            clear hb hB2 e0 e1 e2 e3 e4
            by_cases hm2 : m2 < (pre24 x.f4[j]).length
            · have hm2b : (m2 < (pre24 x.f4[j]).length) = True := eq_true hm2
              have HM2 := Aside0.mk hm2
              clear hm2
              go_wp2_with fail
              have BK := Aside0.mk (blk_drew HBK3.out)
              have BN := Aside0.mk (blk_drew HBN3.out)
              have RR := Aside0.mk (Kd.R_drew HR3.out)
              have BB := Aside0.mk (below_drew1 HB3.out)
              have HLA : Aside0 (acc.length + 1 < 1099511627776) := ⟨by have := HO.out; have := H1.out; have := HN.out; omega⟩
              clear HB3 HBN3 HBK3 HR3 hm2b
              refine start_ (n := 7) (S := fun w' => w'.cell? ⟨wr.heap.size, 0, none⟩ = some (.int .i64 x.f4[j].f0) ∧ w'.cell? ⟨wr.heap.size, 1, none⟩ = some (.string x.f4[j].f1) ∧ w'.cell? ⟨wr.heap.size, 2, none⟩ = some (.int .i64 x.f4[j].f2) ∧ w'.cell? ⟨wr.heap.size, 3, none⟩ = some (.int .i64 x.f4[j].f3) ∧ w'.cell? ⟨wr.heap.size, 4, none⟩ = some (.slice A4 x.f4[j].f4.length c4)) (ds := []) #[false, false, false, false, false, false, false] (by kernel_rfl) rfl rfl ⟨(blk_cell BK.out 0).trans rfl, (blk_cell BK.out 1).trans rfl, (blk_cell BK.out 2).trans rfl, (blk_cell BK.out 3).trans rfl, (blk_cell BK.out 4).trans rfl⟩ (fun hHeld => ?_)
              generalize w3.drew = w4 at BK BN RR BB hHeld ⊢
              refine pure_ (i := 0) (N := some 35) (v := ?_) (a' := ?_) #[true, false, false, false, false, false, false] rfl rfl (by kernel_rfl) (fun _ _ _ h => h) (Or.inl ⟨by rfl, ?_⟩) ?_ ?_
              rotate_left
              · intro w'
                go_simp
                with_reducible rfl
              rotate_left
              · simp only [Act.put, List.setIfInBounds_toArray, List.set_cons_zero, List.set_cons_succ, i64_w, i32_w]
                rfl
              refine pure_ (i := 1) (N := some 36) (v := ?_) (a' := ?_) #[true, true, false, false, false, false, false] rfl rfl (by kernel_rfl) (fun _ _ _ h => h) (Or.inl ⟨by rfl, ?_⟩) ?_ ?_
              rotate_left
              · intro w'
                go_simp
                with_reducible rfl
              rotate_left
              · simp only [Act.put, List.setIfInBounds_toArray, List.set_cons_zero, List.set_cons_succ, i64_w, i32_w]
                rfl
              refine take_ (i := 4) (N := some 39) (v := ?_) (a' := ?_) #[true, true, false, false, true, false, false] rfl rfl (by kernel_rfl) (fun _ _ _ h => h) (Or.inl ⟨by rfl, ?_⟩) hHeld ?_ ?_
              rotate_left
              · rintro w' ⟨s0, s1, s2, s3, s4⟩
                go_simp
                with_reducible rfl
              rotate_left
              · simp only [Act.put, List.setIfInBounds_toArray, List.set_cons_zero, List.set_cons_succ, i64_w, i32_w]
                rfl
              refine one_ (i := 2) (N := some 37) #[true, true, true, false, true, false, false] rfl rfl (by kernel_rfl) (by decide) (fun K hK => ?_)
              refine value_ (w1 := ?_) (v := ?_) (by rfl) rfl ?_ ?_
              rotate_left 2
              · go_simp
                constructor
                · rfl
                · rfl
              refine hK.out _ _ ⟨(blk_cell (blk_alloc BK.out _) 0).trans rfl, (blk_cell (blk_alloc BK.out _) 1).trans rfl, (blk_cell (blk_alloc BK.out _) 2).trans rfl, (blk_cell (blk_alloc BK.out _) 3).trans rfl, (blk_cell (blk_alloc BK.out _) 4).trans rfl⟩ (fun hHeld => ?_)
              clear hK K
              refine norm_ (a' := ?_) ?_ ?_
              rotate_left
              · show Act.put _ (some 37) _ = _
                simp only [Act.put, List.setIfInBounds_toArray, List.set_cons_zero, List.set_cons_succ, i64_w, i32_w]
                rfl
              refine one_ (i := 3) (N := some 38) #[true, true, true, true, true, false, false] rfl rfl (by kernel_rfl) (by decide) (fun K hK => ?_)
              refine Kd.R_append_step (Kd.int .i64) (w0 := w) w.heap.size (by rfl) (.tmp 35) (.tmp 37) 33 3 (.int .i64 0) 8 rfl Try.underlying33 info3 rfl (by decide) (by omega) _ acc (j : Int) [.int .i64 (j : Int)] (fun k_ => w.heap.size < k_) (fun _ => False) rfl rfl ?aP (fun _ hk => hk.elim) ?aF ?aO ?aB ?aS ?aL ?_
              (case aP => exact rfl)
              (case aB => exact BB.out)
              (case aF => intro k_ hk; have := (Array.getElem?_eq_some_iff.1 BN.out).1; omega)
              (case aO => exact RR.out)
              (case aS => exact BB.out.size)
              (case aL => have := HLA.out; omega)
              intro v5 w5 ho hb hg hat
              have BN5 := Aside0.mk (blk_grown BN.out hg (Kd.R_ne RR.out BN.out (by decide)))
              have BK5 := Aside0.mk (blk_grown BK.out hg (Kd.R_ne RR.out BK.out (by decide)))
              have RR5 := Aside0.mk ho
              have BB5 := Aside0.mk hb
              clear ho hb hg hat BN BK RR BB
              refine hK.out _ _ ⟨(blk_cell BK5.out 0).trans rfl, (blk_cell BK5.out 1).trans rfl, (blk_cell BK5.out 2).trans rfl, (blk_cell BK5.out 3).trans rfl, (blk_cell BK5.out 4).trans rfl⟩ (fun hHeld => ?_)
              clear hK K
              refine norm_ (a' := ?_) ?_ ?_
              rotate_left
              · show Act.put _ (some 38) _ = _
                simp only [Act.put, List.setIfInBounds_toArray, List.set_cons_zero, List.set_cons_succ, i64_w, i32_w]
                rfl
              refine pure_ (i := 5) (N := some 6) (v := ?_) (a' := ?_) #[true, true, true, true, true, true, false] rfl rfl (by kernel_rfl) (fun _ _ _ h => h) (Or.inl ⟨by rfl, ?_⟩) ?_ ?_
              rotate_left
              · intro w'
                go_simp
                with_reducible rfl
              rotate_left
              · simp only [Act.put, List.setIfInBounds_toArray, List.set_cons_zero, List.set_cons_succ, i64_w, i32_w]
                rfl
              refine one_ (i := 6) (N := none) #[true, true, true, true, true, true, true] rfl rfl (by kernel_rfl) (by decide) (fun K hK => ?_)
              have hne : w.heap.size ≠ wr.heap.size := Nat.ne_of_lt HSZ.out
              have hne2 : wr.heap.size ≠ w.heap.size := fun e => hne e.symm
              have hs0 : w5.cell? ⟨w.heap.size, 0, none⟩ = some (.int .i64 x.f0) := (blk_cell BN5.out 0).trans rfl
              have hf0 := blk_frozen BN5.out 0
              have hs1 : w5.cell? ⟨w.heap.size, 1, none⟩ = some (.string x.f1) := (blk_cell BN5.out 1).trans rfl
              have hf1 := blk_frozen BN5.out 1
              have hs2 : w5.cell? ⟨w.heap.size, 2, none⟩ = some (.int .i64 x.f2) := (blk_cell BN5.out 2).trans rfl
              have hf2 := blk_frozen BN5.out 2
              have hs3 : w5.cell? ⟨w.heap.size, 3, none⟩ = some (.int .i64 x.f3) := (blk_cell BN5.out 3).trans rfl
              have hf3 := blk_frozen BN5.out 3
              have hs4 : w5.cell? ⟨w.heap.size, 4, none⟩ = some (.slice (some ad2) x.f4.length c) := (blk_cell BN5.out 4).trans rfl
              have hf4 := blk_frozen BN5.out 4
              refine skip_ (w1 := ?_) (by rfl) rfl ?_ ?_
              rotate_left
              · go_simp
                rfl
              refine hK.out _ _ ⟨(cell_far (p := ⟨w.heap.size, _, none⟩) hne2 _).trans ((cell_far (p := ⟨w.heap.size, _, none⟩) hne2 _).trans ((cell_far (p := ⟨w.heap.size, _, none⟩) hne2 _).trans ((cell_far (p := ⟨w.heap.size, _, none⟩) hne2 _).trans ((cell_far (p := ⟨w.heap.size, _, none⟩) hne2 _).trans (hHeld.1))))), (cell_far (p := ⟨w.heap.size, _, none⟩) hne2 _).trans ((cell_far (p := ⟨w.heap.size, _, none⟩) hne2 _).trans ((cell_far (p := ⟨w.heap.size, _, none⟩) hne2 _).trans ((cell_far (p := ⟨w.heap.size, _, none⟩) hne2 _).trans ((cell_far (p := ⟨w.heap.size, _, none⟩) hne2 _).trans (hHeld.2.1))))), (cell_far (p := ⟨w.heap.size, _, none⟩) hne2 _).trans ((cell_far (p := ⟨w.heap.size, _, none⟩) hne2 _).trans ((cell_far (p := ⟨w.heap.size, _, none⟩) hne2 _).trans ((cell_far (p := ⟨w.heap.size, _, none⟩) hne2 _).trans ((cell_far (p := ⟨w.heap.size, _, none⟩) hne2 _).trans (hHeld.2.2.1))))), (cell_far (p := ⟨w.heap.size, _, none⟩) hne2 _).trans ((cell_far (p := ⟨w.heap.size, _, none⟩) hne2 _).trans ((cell_far (p := ⟨w.heap.size, _, none⟩) hne2 _).trans ((cell_far (p := ⟨w.heap.size, _, none⟩) hne2 _).trans ((cell_far (p := ⟨w.heap.size, _, none⟩) hne2 _).trans (hHeld.2.2.2.1))))), (cell_far (p := ⟨w.heap.size, _, none⟩) hne2 _).trans ((cell_far (p := ⟨w.heap.size, _, none⟩) hne2 _).trans ((cell_far (p := ⟨w.heap.size, _, none⟩) hne2 _).trans ((cell_far (p := ⟨w.heap.size, _, none⟩) hne2 _).trans ((cell_far (p := ⟨w.heap.size, _, none⟩) hne2 _).trans (hHeld.2.2.2.2)))))⟩ (fun hHeld => ?_)
              clear hK K
              refine done_ (by kernel_rfl) ?_
              go_wp2_with fail
              refine ⟨⟨v5, x.f4[j], m2, acc ++ [(j : Int)], A4, c4, rfl, rfl, ⟨?_⟩, HE, HEL, ⟨?_⟩, ⟨?_, ?_, ?_⟩, ⟨?_⟩, ⟨?_⟩⟩, ?_⟩
              · refine blk_put (cs := #[.int .i64 x.f4[j].f0, .string x.f4[j].f1, .int .i64 x.f4[j].f2, .int .i64 x.f4[j].f3, .slice (some ad2) x.f4.length c]) ?_ 4 _ rfl
                refine blk_put (cs := #[.int .i64 x.f4[j].f0, .string x.f4[j].f1, .int .i64 x.f4[j].f2, .int .i64 x.f3, .slice (some ad2) x.f4.length c]) ?_ 3 _ rfl
                refine blk_put (cs := #[.int .i64 x.f4[j].f0, .string x.f4[j].f1, .int .i64 x.f2, .int .i64 x.f3, .slice (some ad2) x.f4.length c]) ?_ 2 _ rfl
                refine blk_put (cs := #[.int .i64 x.f4[j].f0, .string x.f1, .int .i64 x.f2, .int .i64 x.f3, .slice (some ad2) x.f4.length c]) ?_ 1 _ rfl
                refine blk_put (cs := #[.int .i64 x.f0, .string x.f1, .int .i64 x.f2, .int .i64 x.f3, .slice (some ad2) x.f4.length c]) ?_ 0 _ rfl
                exact BN5.out
              · rw [← HQ.out, pathL24_drop hj, if_pos HM2.out]; simp
              · exact HM2.out
              · have := HKL.out; have := HPX.out; omega
              · have := HO.out.2.2; have := HM.out.2; simp only [List.length_append, List.length_singleton]; omega
              · iterate 5 refine Kd.R_far ?_ (fun k hk => Nat.ne_of_gt hk) _
                exact RR5.out
              · iterate 5 refine below_set ?_ (Nat.le_refl _)
                exact BB5.out
              · show ((m2 : Int)).toNat < O.toNat
                have := HOO.out; have := HM.out.2; omega
            · have hm2b : (m2 < (pre24 x.f4[j]).length) = False := eq_false hm2
              have HM2 := Aside0.mk hm2
              clear hm2
              go_wp2_with fail
              go_roundw
              case rel =>
                refine ⟨j + 1, m2 - (pre24 x.f4[j]).length, ?_, ?_, rfl, ⟨hj⟩, ⟨?_⟩, ⟨?_, ?_⟩, HBN3, HR3, HB3⟩
                · have := HKL.out; have := HPX.out; have := HN.out; have := len_preL24 x.f4
                  first | rfl | (rw [wrap64_small24 (by omega)]; rfl)
                · have := HM2.out; have := HM.out; have := HO.out; have := HN.out
                  have e : wrap64 ((m2 : Int) - ((pre24 x.f4[j]).length : Int)) = ((m2 - (pre24 x.f4[j]).length : Nat) : Int) := by unfold wrap64; omega
                  rw [e]
                · rw [← HQ.out, pathL24_drop hj, if_neg HM2.out]; rfl
                · have := HM.out.1; rw [preL24_drop hj] at this; have := HM2.out; omega
                · have := HM.out.2; omega
              case measure =>
                have := HKL.out; have := HPX.out; have := HN.out; have := len_preL24 x.f4
                rw [wrap64_small24 (by omega)]; show x.f4.length - (((j + 1 : Nat) : Int)).toNat < x.f4.length - (j : Int).toNat; omega
    · have e1 : (decide (0 ≤ (m : Int)) && decide ((m : Int) < ((pre24 T).length : Int))) = false := by simp; omega
      have e2 : (if 0 ≤ (m : Int) ∧ (m : Int) < ((pre24 T).length : Int) then path24 T (m : Int).toNat else []) = [] := by rw [if_neg (by omega)]
      rw [e1, e2]
      have h1b : ((pre24 T).length ≤ m) = True := by simp; omega
      clear e1 e2 h0 h1
      go_enter Try.func26, Try.ntmps26
      go_wp2_with fail
      refine (HX.out _ ((Below.refl w.heap.size w).alloc (Nat.le_refl _) _)).mono ?_
      clear HX
      rintro e w1 ⟨rfl, hb⟩
      have HB := Aside0.mk (((Below.refl w.heap.size w).alloc (Nat.le_refl _) (.cells #[.int .i64 T.f0, .string T.f1, .int .i64 T.f2, .int .i64 T.f3, .slice A T.f4.length c] 24)).trans (hb.mono (by simp)))
      clear hb
      go_wp2_with fail
      refine bodyPost_ret (results_tmp2 rfl _ _ _) rfl ?_
      exact ⟨_, rfl, Kd.R_nil _ _ _ _ _, HB.out⟩

def tree_Path.f (a0_0 : Int) (a0_1 : ByteArray) (a0_2 : Int) (a0_3 : Int) (l0_4 : List S24) (a1 : Int) : Option (List Int × Bool) :=
  if (pre24 ⟨a0_0, a0_1, a0_2, a0_3, l0_4⟩).length < 1099511627776 then some (if 0 ≤ a1 ∧ a1 < ((pre24 ⟨a0_0, a0_1, a0_2, a0_3, l0_4⟩).length : Int) then path24 ⟨a0_0, a0_1, a0_2, a0_3, l0_4⟩ a1.toNat else [], decide (0 ≤ a1) && decide (a1 < ((pre24 ⟨a0_0, a0_1, a0_2, a0_3, l0_4⟩).length : Int))) else none

theorem tree_Path.calls (a0_0 : Int) (a0_1 : ByteArray) (a0_2 : Int) (a0_3 : Int) (A0_4 : Option Addr) (c0_4 : Nat) (l0_4 : List (S24)) (a1 : Int) (r1 : List Int) (r2 : Bool) (w : World) (hr0_4 : Kd.C k24 w A0_4 l0_4.length l0_4) (hc0_4 : l0_4.length ≤ c0_4) (h : tree_Path.f a0_0 a0_1 a0_2 a0_3 l0_4 a1 = some (r1, r2)) :
    Calls Try.prog 26 #[.agg #[.int .i64 a0_0, .string a0_1, .int .i64 a0_2, .int .i64 a0_3, .slice A0_4 l0_4.length c0_4], .int .i64 a1] w fun e w' => ∃ v0_ : Value, e = .returned (.tuple #[v0_, .bool r2]) ∧ Kd.R (Kd.int .i64) 3 w' w.heap.size (fun _ => True) v0_ r1 ∧ Below w.heap.size w w' := by
  unfold tree_Path.f at h
  split at h
  case isFalse => simp at h
  rename_i hn
  have h' := Option.some.inj h
  obtain ⟨rfl, rfl⟩ := Prod.mk.inj h'
  exact Path_calls ⟨a0_0, a0_1, a0_2, a0_3, l0_4⟩ hn A0_4 c0_4 a1 w hr0_4 hc0_4
end Go.Proofs.Ytbheobngeocdfaa.PAll
