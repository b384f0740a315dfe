/- The closure in the program's Needed: what its calls come to: for valid attempts and points in their range. -/
import Derived.Test.YtdailoccmjeceaaM3
import Derived.Test.YtdailoccmjeceaaH4
namespace Go.Proofs.Ytdailoccmjeceaa.PAll
open Go.RowKit Go.Lib Go.Sort Go.Proofs.YtdailoccmjeceaaW.PrintWords Go.Proofs.YtdailoccmjeceaaW.PrintLast Go.Proofs.YtdailoccmjeceaaW.PrintMore
set_option linter.unusedVariables false
set_option linter.unusedSimpArgs false

theorem step_lit {P : Program} {ops : Array Oper} {o : Oper} {a : Act} {W : World} {K : Act → World → Prop} {Q : Exit → Act → World → Prop} {E : Prop} (n : Nat) (L : Array Value) (t : TypeId) (hgd : o.guard = none)
    (hrun : (execOp a.eval o).run P W = .ok (.value (.slice (some ⟨W.heap.size, 0, none⟩) n n)) (W.alloc (.cells L t)))
    (h : ∀ g w1, Aside0 (w1.heap[g]? = some (.cells L t (0, 0))) → RowKit.Below W.heap.size W w1 → K (a.put o.dst (.slice (some ⟨g, 0, none⟩) n n)) w1) : if Region.wanted o (yielded ops a.tmps) = true then Oper.wp P o a W K Q else E := by
  have hw : Region.wanted o (yielded ops a.tmps) = true := by simp [Region.wanted, hgd]
  rw [if_pos hw]
  unfold Oper.wp
  rw [hrun]
  exact h _ _ ⟨heap_alloc_new W _⟩ ((Below.refl _ _).alloc (Nat.le_refl _) _)
theorem step_box {P : Program} {ops : Array Oper} {o : Oper} {a : Act} {W : World} {K : Act → World → Prop} {Q : Exit → Act → World → Prop} {E : Prop} (L : Array Value) (t : TypeId) (hgd : o.guard = none)
    (hrun : (execOp a.eval o).run P W = .ok (.value (.pointer (some ⟨W.heap.size, 0, none⟩))) (W.alloc (.cells L t)))
    (h : ∀ g w1, Aside0 (w1.heap[g]? = some (.cells L t (0, 0))) → g = W.heap.size → RowKit.Below W.heap.size W w1 → K (a.put o.dst (.pointer (some ⟨g, 0, none⟩))) w1) : if Region.wanted o (yielded ops a.tmps) = true then Oper.wp P o a W K Q else E := by
  have hw : Region.wanted o (yielded ops a.tmps) = true := by simp [Region.wanted, hgd]
  rw [if_pos hw]
  unfold Oper.wp
  rw [hrun]
  exact h _ _ ⟨heap_alloc_new W _⟩ rfl ((Below.refl _ _).alloc (Nat.le_refl _) _)
theorem step_skip {P : Program} {ops : Array Oper} {o : Oper} {a : Act} {W w1 : World} {K : Act → World → Prop} {Q : Exit → Act → World → Prop} {E : Prop} (hgd : o.guard = none)
    (hrun : (execOp a.eval o).run P W = .ok .skip w1) (h : K (a.put o.dst undef) w1) : if Region.wanted o (yielded ops a.tmps) = true then Oper.wp P o a W K Q else E := by
  have hw : Region.wanted o (yielded ops a.tmps) = true := by simp [Region.wanted, hgd]
  rw [if_pos hw]
  unfold Oper.wp
  rw [hrun]
  exact h
theorem set3 {w : World} {g : Nat} {a0 b0 c0 a b c : Value} (h : w.heap[g]? = some (.cells #[a0, b0, c0] 38 (0, 0))) :
    w.cell? ⟨g, 0, none⟩ = some a0 ∧ w.frozen? ⟨g, 0, none⟩ = false ∧ (w.setCell ⟨g, 0, none⟩ a).cell? ⟨g, 1, none⟩ = some b0 ∧ (w.setCell ⟨g, 0, none⟩ a).frozen? ⟨g, 1, none⟩ = false ∧ ((w.setCell ⟨g, 0, none⟩ a).setCell ⟨g, 1, none⟩ b).cell? ⟨g, 2, none⟩ = some c0 ∧ ((w.setCell ⟨g, 0, none⟩ a).setCell ⟨g, 1, none⟩ b).frozen? ⟨g, 2, none⟩ = false ∧
      (((w.setCell ⟨g, 0, none⟩ a).setCell ⟨g, 1, none⟩ b).setCell ⟨g, 2, none⟩ c).heap[g]? = some (.cells #[a, b, c] 38 (0, 0)) := by
  have h1 := blk_set h 0 a
  have h2 := blk_set h1 1 b
  have h3 := blk_set h2 2 c
  exact ⟨(blk_cell h 0).trans rfl, blk_frozen h 0, (blk_cell h1 1).trans rfl, blk_frozen h1 1, (blk_cell h2 2).trans rfl, blk_frozen h2 2, h3⟩
theorem trans2 {w w1 w2 : World} (h : RowKit.Below w1.heap.size w1 w2) (hb : RowKit.Below w.heap.size w w1) : RowKit.Below w.heap.size w w2 := hb.trans (h.mono hb.size)
theorem last_f (l : List S38) (hl : l.length ≤ 16) : attempts_last.f l = some (lastA l) := by
  unfold attempts_last.f lastA
  by_cases h : l = []
  · subst h; rfl
  · have hp : 0 < l.length := List.length_pos_iff.2 h
    have e : wrap64 ((l.length : Int) - 1) = ((l.length - 1 : Nat) : Int) := by rw [w64 (by omega) (by omega)]; omega
    rw [if_neg (by omega), if_neg h, e, if_pos (by omega), if_pos (by omega), rdn l _ (by omega)]
    simp [List.getD_eq_getElem?_getD, show l.length - 1 < l.length from by omega]
theorem inR_further (l : List S38) (n : Int) (h : inR l) (h0 : 0 ≤ n) (h1 : n ≤ 100000000) : inR (furtherA l n) := by
  intro x hx
  unfold furtherA at hx
  rcases List.mem_append.1 hx with hx | hx
  · exact h x hx
  · rw [List.mem_singleton.1 hx]; exact ⟨h0, h1⟩
theorem C38_one {W : World} {g : Nat} (x : S38) (h : W.heap[g]? = some (.cells #[.int .i64 x.f0, .int .i64 x.f1, .int .i64 x.f2] 38 (0, 0))) : Kd.C k38 W (some ⟨g, 0, none⟩) 1 [x] :=
  (Kd.R_reads' (R38_of (W := W) (base := 0) (g := g) (xs := [x]) h (Nat.zero_le _) (by unfold maxLen; simp))).2.2

set_option maxHeartbeats 8000000 in
set_option maxRecDepth 100000 in
theorem closure29 (a0_0 a0_1 a0_2 a0_3 goal n : Int) (A1 : Option Addr) (c1 : Nat) (l1 : List S38) (gl gr gg : Nat) (W : World) (hl : l1.length ≤ 16) (hr : inR l1) (hn0 : 0 ≤ n) (hn1 : n ≤ 100000000) (hc1 : l1.length ≤ c1)
    (hkl : W.heap[gl]? = some (.cells #[.slice A1 l1.length c1] 24 (0, 0))) (hkr : W.heap[gr]? = some (.cells #[.int .i64 a0_0, .int .i64 a0_1, .int .i64 a0_2, .int .i64 a0_3] 23 (0, 0))) (hkg : W.heap[gg]? = some (.cells #[.int .i64 goal] 3 (0, 0)))
    (hr1 : Kd.C k38 W A1 l1.length l1) :
    Calls Try.prog 29 #[.int .i64 n, .pointer (some ⟨gl, 0, none⟩), .pointer (some ⟨gr, 0, none⟩), .pointer (some ⟨gg, 0, none⟩)] W fun e w' => e = .returned (.bool (enoughA a0_0 a0_3 l1 goal n)) ∧ RowKit.Below W.heap.size W w' := by
  have hu23 := Try.underlying23
  have hu38 := Try.underlying38
  have HL := Aside0.mk hl
  have HIR := Aside0.mk hr
  have HN := Aside0.mk (And.intro hn0 hn1)
  have HC := Aside0.mk hc1
  have HR := Aside0.mk hr1
  have HS : Aside0 (∀ w', RowKit.Below W.heap.size W w' → (w'.cell? ⟨gl, 0, none⟩ = some (.slice A1 l1.length c1)) ∧ (w'.cell? ⟨gr, 0, none⟩ = some (.int .i64 a0_0)) ∧ (w'.cell? ⟨gr, 1, none⟩ = some (.int .i64 a0_1)) ∧ (w'.cell? ⟨gr, 2, none⟩ = some (.int .i64 a0_2)) ∧ (w'.cell? ⟨gr, 3, none⟩ = some (.int .i64 a0_3)) ∧ (w'.cell? ⟨gg, 0, none⟩ = some (.int .i64 goal))) := ⟨fun w' hb => by
    have e1 := (hb.block _ (blk_lt hkl)).trans hkl
    have e2 := (hb.block _ (blk_lt hkr)).trans hkr
    have e3 := (hb.block _ (blk_lt hkg)).trans hkg
    exact ⟨(blk_cell e1 0).trans rfl, (blk_cell e2 0).trans rfl, (blk_cell e2 1).trans rfl, (blk_cell e2 2).trans rfl, (blk_cell e2 3).trans rfl, (blk_cell e3 0).trans rfl⟩⟩
  have hw1 : wrap64 ((l1.length : Int) + 1) = (l1.length : Int) + 1 := w64 (by omega) (by omega)
  have HW1 := Aside0.mk hw1
  clear hkl hkr hkg hr1 hl hr hn0 hn1 hc1 hw1
  go_enter Try.func29, Try.ntmps29
  go_upto_region 1 with fail
  refine start_ (n := 9) (S := fun w' => RowKit.Below W.heap.size W w') (ds := []) #[false, false, false, false, false, false, false, false, false] (by kernel_rfl) rfl rfl ((Below.refl _ _).drew) (fun hHeld => ?_)
  generalize W.drew = w6 at hHeld ⊢
  refine take_ (i := 0) (N := (some 7)) (v := ?_) (a' := ?_) #[true, false, false, false, false, false, false, false, false] rfl rfl (by kernel_rfl) (fun _ _ _ h => h) (Or.inl ⟨by rfl, ?_⟩) hHeld ?_ ?_
  rotate_left
  · intro w' hw'
    obtain ⟨s0, s1, s2, s3, s4, s5⟩ := HS.out w' hw'
    go_simp
    with_reducible rfl
  rotate_left
  · simp only [Act.put, List.setIfInBounds_toArray, List.set_cons_zero, List.set_cons_succ, i64_w, i32_w]
    rfl
  refine pure_ (i := 1) (N := (some 8)) (v := ?_) (a' := ?_) #[true, true, false, false, false, false, false, false, false] rfl rfl (by kernel_rfl) (fun _ _ _ h => h) (Or.inl ⟨by rfl, ?_⟩) ?_ ?_
  rotate_left
  · intro w'
    go_simp
    with_reducible rfl
  rotate_left
  · simp only [Act.put, List.setIfInBounds_toArray, List.set_cons_zero, List.set_cons_succ, i64_w, i32_w]
    rfl
  refine pure_ (i := 2) (N := (some 9)) (v := ?_) (a' := ?_) #[true, true, true, false, false, false, false, false, false] rfl rfl (by kernel_rfl) (fun _ _ _ h => h) (Or.inl ⟨by rfl, ?_⟩) ?_ ?_
  rotate_left
  · intro w'
    go_simp
    with_reducible rfl
  rotate_left
  · simp only [Act.put, List.setIfInBounds_toArray, List.set_cons_zero, List.set_cons_succ, i64_w, i32_w]
    rfl
  refine take_ (i := 3) (N := (some 10)) (v := ?_) (a' := ?_) #[true, true, true, true, false, false, false, false, false] rfl rfl (by kernel_rfl) (fun _ _ _ h => h) (Or.inl ⟨by rfl, ?_⟩) hHeld ?_ ?_
  rotate_left
  · intro w' hw'
    obtain ⟨s0, s1, s2, s3, s4, s5⟩ := HS.out w' hw'
    go_simp
    with_reducible rfl
  rotate_left
  · simp only [Act.put, List.setIfInBounds_toArray, List.set_cons_zero, List.set_cons_succ, i64_w, i32_w]
    rfl
  refine pure_ (i := 5) (N := (some 12)) (v := ?_) (a' := ?_) #[true, true, true, true, false, true, false, false, false] rfl rfl (by kernel_rfl) (fun _ _ _ h => h) (Or.inl ⟨by rfl, ?_⟩) ?_ ?_
  rotate_left
  · intro w'
    go_simp
    with_reducible rfl
  rotate_left
  · simp only [Act.put, List.setIfInBounds_toArray, List.set_cons_zero, List.set_cons_succ, i64_w, i32_w]
    rfl
  refine join_ (σ := Nat) 1 #[true, true, true, true, true, true, true, true, false] (fun s_ => [(11, .int .i64 (lastA l1)), (13, .agg #[.int .i64 (wrap64 ((l1.length : Int) + 1)), .int .i64 (lastA l1), .int .i64 n]), (6, .pointer (some ⟨s_, 0, none⟩))]) (fun s_ w' => RowKit.Below W.heap.size W w' ∧ W.heap.size ≤ s_ ∧ w'.heap[s_]? = some (.cells #[.int .i64 0, .int .i64 0, .int .i64 0] 38 (0, 0))) ?_ ?_
  rotate_left
  · intro hJ
    refine two_ (i := 4) (j := 7) (Ni := (some 11)) (Nj := (some 6)) #[true, true, true, true, true, true, false, false, false] #[true, true, true, true, false, true, false, true, false] rfl rfl rfl rfl (by kernel_rfl) (by decide) (by decide) (fun K hK => ?_) (fun K hK => ?_)
    · skip
      refine goes_ Try.func30 (by kernel_rfl) rfl #[.slice A1 l1.length c1] (by rfl) rfl rfl (by (try simp only [List.map_toArray, List.map_cons, List.map_nil]); first | done | rfl) ?_
      refine (attempts_last.calls A1 c1 l1 _ _ (Kd.C_below HR.out hHeld) HC.out (last_f l1 HL.out)).mono ?_
      rintro e wk ⟨rfl, ⟨nd, rfl⟩⟩
      refine ⟨_, rfl, ?_⟩
      have hS := pw_below_drewN hHeld nd
      have hHeld0 := hHeld
      clear hHeld
      clear hHeld0
      refine hK.out _ _ hS (fun hHeld => ?_)
      clear hK K hS
      refine norm_ (a' := ?_) ?_ ?_
      rotate_left
      · show Act.put _ (some 11) _ = _
        simp only [Act.put, List.setIfInBounds_toArray, List.set_cons_zero, List.set_cons_succ, i64_w, i32_w]
        rfl
      refine pure_ (i := 6) (N := (some 13)) (v := ?_) (a' := ?_) #[true, true, true, true, true, true, true, false, false] rfl rfl (by kernel_rfl) (fun _ _ _ h => h) (Or.inl ⟨by rfl, ?_⟩) ?_ ?_
      rotate_left
      · intro w'
        go_simp
        with_reducible rfl
      rotate_left
      · simp only [Act.put, List.setIfInBounds_toArray, List.set_cons_zero, List.set_cons_succ, i64_w, i32_w]
        rfl
      refine one_ (i := 7) (N := (some 6)) #[true, true, true, true, true, true, true, true, false] rfl rfl (by kernel_rfl) (by decide) (fun K hK => ?_)
      refine step_box #[.int .i64 0, .int .i64 0, .int .i64 0] 38 (by rfl) (by first | (go_simp; done) | (go_simp; rfl)) ?_
      intro g wk hg hge hb
      have hgW : W.heap.size ≤ g := by rw [hge]; exact hHeld.size
      have hS := hHeld.trans (hb.mono hHeld.size)
      clear hHeld hb hge
      refine hK.out _ _ hS (fun hHeld => ?_)
      clear hK K hS
      refine norm_ (a' := ?_) ?_ ?_
      rotate_left
      · show Act.put _ (some 6) _ = _
        simp only [Act.put, List.setIfInBounds_toArray, List.set_cons_zero, List.set_cons_succ, i64_w, i32_w]
        rfl
      exact norm_ (by first | (simp only [putAll, Act.put, List.setIfInBounds_toArray, List.set_cons_zero, List.set_cons_succ]; done) | (simp only [putAll, Act.put, List.setIfInBounds_toArray, List.set_cons_zero, List.set_cons_succ]; rfl)) (hJ g _ ⟨hHeld, hgW, hg.out⟩)
    · skip
      refine step_box #[.int .i64 0, .int .i64 0, .int .i64 0] 38 (by rfl) (by first | (go_simp; done) | (go_simp; rfl)) ?_
      intro g wk hg hge hb
      have hgW : W.heap.size ≤ g := by rw [hge]; exact hHeld.size
      have hS := hHeld.trans (hb.mono hHeld.size)
      clear hHeld hb hge
      refine hK.out _ _ hS (fun hHeld => ?_)
      clear hK K hS
      refine norm_ (a' := ?_) ?_ ?_
      rotate_left
      · show Act.put _ (some 6) _ = _
        simp only [Act.put, List.setIfInBounds_toArray, List.set_cons_zero, List.set_cons_succ, i64_w, i32_w]
        rfl
      refine one_ (i := 4) (N := (some 11)) #[true, true, true, true, true, true, false, true, false] rfl rfl (by kernel_rfl) (by decide) (fun K hK => ?_)
      refine goes_ Try.func30 (by kernel_rfl) rfl #[.slice A1 l1.length c1] (by rfl) rfl rfl (by (try simp only [List.map_toArray, List.map_cons, List.map_nil]); first | done | rfl) ?_
      refine (attempts_last.calls A1 c1 l1 _ _ (Kd.C_below HR.out hHeld) HC.out (last_f l1 HL.out)).mono ?_
      rintro e wk ⟨rfl, ⟨nd, rfl⟩⟩
      refine ⟨_, rfl, ?_⟩
      have hS := pw_below_drewN hHeld nd
      have hHeld0 := hHeld
      clear hHeld
      have hg2 : Aside0 ((World.drewN _ nd).heap[g]? = some _) := ⟨(by simpa using hg.out : (World.drewN _ nd).heap[g]? = some (.cells #[.int .i64 0, .int .i64 0, .int .i64 0] 38 (0, 0)))⟩
      clear hg hHeld0
      refine hK.out _ _ hS (fun hHeld => ?_)
      clear hK K hS
      refine norm_ (a' := ?_) ?_ ?_
      rotate_left
      · show Act.put _ (some 11) _ = _
        simp only [Act.put, List.setIfInBounds_toArray, List.set_cons_zero, List.set_cons_succ, i64_w, i32_w]
        rfl
      refine pure_ (i := 6) (N := (some 13)) (v := ?_) (a' := ?_) #[true, true, true, true, true, true, true, true, false] rfl rfl (by kernel_rfl) (fun _ _ _ h => h) (Or.inl ⟨by rfl, ?_⟩) ?_ ?_
      rotate_left
      · intro w'
        go_simp
        with_reducible rfl
      rotate_left
      · simp only [Act.put, List.setIfInBounds_toArray, List.set_cons_zero, List.set_cons_succ, i64_w, i32_w]
        rfl
      exact norm_ (by first | (simp only [putAll, Act.put, List.setIfInBounds_toArray, List.set_cons_zero, List.set_cons_succ]; done) | (simp only [putAll, Act.put, List.setIfInBounds_toArray, List.set_cons_zero, List.set_cons_succ]; rfl)) (hJ g _ ⟨hHeld, hgW, hg2.out⟩)
  rintro g w7 ⟨hB7, hgW, hg⟩
  clear hHeld
  have hHeld := hB7
  clear hB7
  refine norm_ (a' := ?_) ?_ ?_
  rotate_left
  · simp only [putAll, Act.put, List.setIfInBounds_toArray, List.set_cons_zero, List.set_cons_succ]
    rfl
  refine one_ (i := 8) (N := none) #[true, true, true, true, true, true, true, true, true] rfl rfl (by kernel_rfl) (by decide) (fun K hK => ?_)
  have hq0 := (blk_cell hg 0).trans rfl
  obtain ⟨x0, f0, x1, f1, x2, f2, hg8⟩ := set3 (a := .int .i64 (wrap64 ((l1.length : Int) + 1))) (b := .int .i64 (lastA l1)) (c := .int .i64 n) hg
  have hb8 : RowKit.Below W.heap.size W (((w7.setCell ⟨g, 0, none⟩ (.int .i64 (wrap64 ((l1.length : Int) + 1)))).setCell ⟨g, 1, none⟩ (.int .i64 (lastA l1))).setCell ⟨g, 2, none⟩ (.int .i64 n)) := below_set (below_set (below_set hHeld hgW) hgW) hgW
  refine step_skip (w1 := (((w7.setCell ⟨g, 0, none⟩ (.int .i64 (wrap64 ((l1.length : Int) + 1)))).setCell ⟨g, 1, none⟩ (.int .i64 (lastA l1))).setCell ⟨g, 2, none⟩ (.int .i64 n))) (by rfl) (by first | (go_simp; done) | (go_simp; rfl)) ?_
  generalize (((w7.setCell ⟨g, 0, none⟩ (.int .i64 (wrap64 ((l1.length : Int) + 1)))).setCell ⟨g, 1, none⟩ (.int .i64 (lastA l1))).setCell ⟨g, 2, none⟩ (.int .i64 n)) = w8 at hg8 hb8 ⊢
  have hS := hb8
  clear hHeld hg hb8 x0 f0 x1 f1 x2 f2 hq0
  refine hK.out _ _ hS (fun hHeld => ?_)
  clear hK K hS
  refine norm_ (a' := ?_) ?_ ?_
  rotate_left
  · show Act.put _ none _ = _
    rfl
  refine done_ (by kernel_rfl) ?_
  rw [HW1.out]
  rw [HW1.out] at hg8
  obtain ⟨X, hX⟩ : ∃ X : S38, X = ⟨(l1.length : Int) + 1, lastA l1, n⟩ := ⟨_, rfl⟩
  have hX0 : (l1.length : Int) + 1 = X.f0 := by rw [hX]
  have hX1 : lastA l1 = X.f1 := by rw [hX]
  have hX2 : n = X.f2 := by rw [hX]
  have HX := Aside0.mk hX
  rw [hX0, hX1, hX2] at hg8
  have HG8 := Aside0.mk hg8
  have HB8 := Aside0.mk hHeld
  have HS2 : Aside0 (∀ w', RowKit.Below w8.heap.size w8 w' → (w'.cell? ⟨gl, 0, none⟩ = some (.slice A1 l1.length c1)) ∧ (w'.cell? ⟨gr, 0, none⟩ = some (.int .i64 a0_0)) ∧ (w'.cell? ⟨gr, 1, none⟩ = some (.int .i64 a0_1)) ∧ (w'.cell? ⟨gr, 2, none⟩ = some (.int .i64 a0_2)) ∧ (w'.cell? ⟨gr, 3, none⟩ = some (.int .i64 a0_3)) ∧ (w'.cell? ⟨gg, 0, none⟩ = some (.int .i64 goal)) ∧ (w'.cell? ⟨g, 0, none⟩ = some (.int .i64 X.f0)) ∧ (w'.cell? ⟨g, 1, none⟩ = some (.int .i64 X.f1)) ∧ (w'.cell? ⟨g, 2, none⟩ = some (.int .i64 X.f2))) := ⟨fun w' hb => by
    obtain ⟨h0, h1, h2, h3, h4, h5⟩ := HS.out w' (trans2 hb HB8.out)
    have e := (hb.block _ (blk_lt HG8.out)).trans HG8.out
    exact ⟨h0, h1, h2, h3, h4, h5, (blk_cell e 0).trans rfl, (blk_cell e 1).trans rfl, (blk_cell e 2).trans rfl⟩⟩
  clear hX hX0 hX1 hX2 hg8 hHeld hgW
  go_upto_region 2 with fail
  refine start_ (n := 10) (S := fun w' => RowKit.Below w8.heap.size w8 w') (ds := []) #[false, false, false, false, false, false, false, false, false, false] (by kernel_rfl) rfl rfl ((Below.refl _ _).drew) (fun hHeld => ?_)
  generalize w8.drew = w9 at hHeld ⊢
  refine take_ (i := 0) (N := (some 14)) (v := ?_) (a' := ?_) #[true, false, false, false, false, false, false, false, false, false] rfl rfl (by kernel_rfl) (fun _ _ _ h => h) (Or.inl ⟨by rfl, ?_⟩) hHeld ?_ ?_
  rotate_left
  · intro w' hw'
    obtain ⟨s0, s1, s2, s3, s4, s5, s6, s7, s8⟩ := HS2.out w' hw'
    go_simp
    with_reducible rfl
  rotate_left
  · simp only [Act.put, List.setIfInBounds_toArray, List.set_cons_zero, List.set_cons_succ, i64_w, i32_w]
    rfl
  refine take_ (i := 1) (N := (some 15)) (v := ?_) (a' := ?_) #[true, true, false, false, false, false, false, false, false, false] rfl rfl (by kernel_rfl) (fun _ _ _ h => h) (Or.inl ⟨by rfl, ?_⟩) hHeld ?_ ?_
  rotate_left
  · intro w' hw'
    obtain ⟨s0, s1, s2, s3, s4, s5, s6, s7, s8⟩ := HS2.out w' hw'
    go_simp
    with_reducible rfl
  rotate_left
  · simp only [Act.put, List.setIfInBounds_toArray, List.set_cons_zero, List.set_cons_succ, i64_w, i32_w]
    rfl
  refine take_ (i := 3) (N := (some 17)) (v := ?_) (a' := ?_) #[true, true, false, true, false, false, false, false, false, false] rfl rfl (by kernel_rfl) (fun _ _ _ h => h) (Or.inl ⟨by rfl, ?_⟩) hHeld ?_ ?_
  rotate_left
  · intro w' hw'
    obtain ⟨s0, s1, s2, s3, s4, s5, s6, s7, s8⟩ := HS2.out w' hw'
    go_simp
    with_reducible rfl
  rotate_left
  · simp only [Act.put, List.setIfInBounds_toArray, List.set_cons_zero, List.set_cons_succ, i64_w, i32_w]
    rfl
  refine take_ (i := 7) (N := (some 21)) (v := ?_) (a' := ?_) #[true, true, false, true, false, false, false, true, false, false] rfl rfl (by kernel_rfl) (fun _ _ _ h => h) (Or.inl ⟨by rfl, ?_⟩) hHeld ?_ ?_
  rotate_left
  · intro w' hw'
    obtain ⟨s0, s1, s2, s3, s4, s5, s6, s7, s8⟩ := HS2.out w' hw'
    go_simp
    with_reducible rfl
  rotate_left
  · simp only [Act.put, List.setIfInBounds_toArray, List.set_cons_zero, List.set_cons_succ, i64_w, i32_w]
    rfl
  refine join_ (σ := Value × Value) 4 #[true, true, true, true, true, false, false, true, false, false] (fun s_ => [(16, s_.1), (18, s_.2)]) (fun s_ w' => RowKit.Below w8.heap.size w8 w' ∧ Kd.R k38 38 w' w8.heap.size (fun _ => True) s_.1 l1 ∧ ∃ A : Option Addr, s_.2 = .slice A 1 1 ∧ Kd.C k38 w' A 1 [X]) ?_ ?_
  rotate_left
  · intro hJ
    refine two_ (i := 2) (j := 4) (Ni := (some 16)) (Nj := (some 18)) #[true, true, true, true, false, false, false, true, false, false] #[true, true, false, true, true, false, false, true, false, false] rfl rfl rfl rfl (by kernel_rfl) (by decide) (by decide) (fun K hK => ?_) (fun K hK => ?_)
    · skip
      refine goes_ Try.func19 (by kernel_rfl) rfl #[.slice A1 l1.length c1] (by rfl) rfl rfl (by (try simp only [List.map_toArray, List.map_cons, List.map_nil]); first | done | rfl) ?_
      refine (api_Attempt.calls A1 c1 l1 l1 _ (Kd.C_below HR.out (trans2 hHeld HB8.out)) HC.out (if_pos (by have := HL.out; omega))).mono ?_
      rintro e wk ⟨v16, rfl, hR16, hb⟩
      refine ⟨_, rfl, ?_⟩
      replace hR16 := Kd.R_lower hR16 hHeld.size
      have hS := hHeld.trans (hb.mono hHeld.size)
      clear hHeld hb
      refine hK.out _ _ hS (fun hHeld => ?_)
      clear hK K hS
      refine norm_ (a' := ?_) ?_ ?_
      rotate_left
      · show Act.put _ (some 16) _ = _
        simp only [Act.put, List.setIfInBounds_toArray, List.set_cons_zero, List.set_cons_succ, i64_w, i32_w]
        rfl
      refine one_ (i := 4) (N := (some 18)) #[true, true, true, true, true, false, false, true, false, false] rfl rfl (by kernel_rfl) (by decide) (fun K hK => ?_)
      refine step_lit 1 #[.int .i64 X.f0, .int .i64 X.f1, .int .i64 X.f2] 38 (by rfl) (by first | (go_simp; done) | (go_simp; rfl)) ?_
      intro g18 wk hg18 hb
      have hC18 := C38_one X hg18.out
      clear hg18
      replace hR16 := Kd.R_below hR16 hb
      have hS := hHeld.trans (hb.mono hHeld.size)
      clear hHeld hb
      refine hK.out _ _ hS (fun hHeld => ?_)
      clear hK K hS
      refine norm_ (a' := ?_) ?_ ?_
      rotate_left
      · show Act.put _ (some 18) _ = _
        simp only [Act.put, List.setIfInBounds_toArray, List.set_cons_zero, List.set_cons_succ, i64_w, i32_w]
        rfl
      exact norm_ (by first | (simp only [putAll, Act.put, List.setIfInBounds_toArray, List.set_cons_zero, List.set_cons_succ]; done) | (simp only [putAll, Act.put, List.setIfInBounds_toArray, List.set_cons_zero, List.set_cons_succ]; rfl)) (hJ (v16, .slice (some ⟨g18, 0, none⟩) 1 1) _ ⟨hHeld, hR16, _, rfl, hC18⟩)
    · skip
      refine step_lit 1 #[.int .i64 X.f0, .int .i64 X.f1, .int .i64 X.f2] 38 (by rfl) (by first | (go_simp; done) | (go_simp; rfl)) ?_
      intro g18 wk hg18 hb
      have hC18 := C38_one X hg18.out
      clear hg18
      have hS := hHeld.trans (hb.mono hHeld.size)
      clear hHeld hb
      refine hK.out _ _ hS (fun hHeld => ?_)
      clear hK K hS
      refine norm_ (a' := ?_) ?_ ?_
      rotate_left
      · show Act.put _ (some 18) _ = _
        simp only [Act.put, List.setIfInBounds_toArray, List.set_cons_zero, List.set_cons_succ, i64_w, i32_w]
        rfl
      refine one_ (i := 2) (N := (some 16)) #[true, true, true, true, true, false, false, true, false, false] rfl rfl (by kernel_rfl) (by decide) (fun K hK => ?_)
      refine goes_ Try.func19 (by kernel_rfl) rfl #[.slice A1 l1.length c1] (by rfl) rfl rfl (by (try simp only [List.map_toArray, List.map_cons, List.map_nil]); first | done | rfl) ?_
      refine (api_Attempt.calls A1 c1 l1 l1 _ (Kd.C_below HR.out (trans2 hHeld HB8.out)) HC.out (if_pos (by have := HL.out; omega))).mono ?_
      rintro e wk ⟨v16, rfl, hR16, hb⟩
      refine ⟨_, rfl, ?_⟩
      replace hR16 := Kd.R_lower hR16 hHeld.size
      replace hC18 := Kd.C_below hC18 hb
      have hS := hHeld.trans (hb.mono hHeld.size)
      clear hHeld hb
      refine hK.out _ _ hS (fun hHeld => ?_)
      clear hK K hS
      refine norm_ (a' := ?_) ?_ ?_
      rotate_left
      · show Act.put _ (some 16) _ = _
        simp only [Act.put, List.setIfInBounds_toArray, List.set_cons_zero, List.set_cons_succ, i64_w, i32_w]
        rfl
      exact norm_ (by first | (simp only [putAll, Act.put, List.setIfInBounds_toArray, List.set_cons_zero, List.set_cons_succ]; done) | (simp only [putAll, Act.put, List.setIfInBounds_toArray, List.set_cons_zero, List.set_cons_succ]; rfl)) (hJ (v16, .slice (some ⟨g18, 0, none⟩) 1 1) _ ⟨hHeld, hR16, _, rfl, hC18⟩)
  rintro ⟨v16, v18⟩ w10 ⟨hB10, hR16, A18, e18, hC18⟩
  have e18' : v18 = .slice A18 1 1 := e18
  clear e18
  subst e18'
  clear hHeld
  have hHeld := hB10
  clear hB10
  refine norm_ (a' := ?_) ?_ ?_
  rotate_left
  · simp only [putAll, Act.put, List.setIfInBounds_toArray, List.set_cons_zero, List.set_cons_succ]
    rfl
  refine one_ (i := 5) (N := (some 19)) #[true, true, true, true, true, true, false, true, false, false] rfl rfl (by kernel_rfl) (by decide) (fun K hK => ?_)
  refine Kd.R_append_rows_step k38 (w0 := w8) w8.heap.size (by rfl) (.tmp 16) (.tmp 18) 24 38 (.agg #[(.int .i64 0), (.int .i64 0), (.int .i64 0)]) 24 rfl Try.underlying24 info38 rfl (by decide) (by omega) v16 l1 [X] A18 1 1 (fun _ => True) (fun _ => False) rfl rfl ?aO ?aR (fun _ _ h => h) (fun _ h => h.elim) ?aF ?aB ?aS ?aL ?_
  case aO => exact hR16
  case aR => exact hC18
  case aF => exact (fun _ _ => trivial)
  case aB => exact hHeld
  case aS => exact hHeld.size
  case aL => have := HL.out; omega
  intro v19 wk ho hb hg hat
  obtain ⟨A19, c19, rfl, hc19, hC19⟩ := Kd.R_reads ho
  have hS := hb
  clear ho hb hg hat hR16 hC18 hHeld
  refine hK.out _ _ hS (fun hHeld => ?_)
  clear hK K hS
  refine norm_ (a' := ?_) ?_ ?_
  rotate_left
  · show Act.put _ (some 19) _ = _
    simp only [Act.put, List.setIfInBounds_toArray, List.set_cons_zero, List.set_cons_succ, i64_w, i32_w]
    rfl
  refine one_ (i := 6) (N := (some 20)) #[true, true, true, true, true, true, true, true, false, false] rfl rfl (by kernel_rfl) (by decide) (fun K hK => ?_)
  have hfur : l1 ++ [X] = furtherA l1 n := by unfold furtherA; rw [HX.out]
  have HP : Aside0 (attempts_points.f 20 a0_0 a0_1 a0_2 a0_3 (l1 ++ [X]) = some (pointsA a0_0 a0_3 (furtherA l1 n))) := ⟨by
    rw [hfur]
    exact points_f a0_0 a0_1 a0_2 a0_3 (furtherA l1 n) 20 (Nat.le_refl _) (by have := HL.out; unfold furtherA; simp; omega) (inR_further l1 n HIR.out HN.out.1 HN.out.2)⟩
  clear hfur
  refine goes_ Try.func28 (by kernel_rfl) rfl #[.agg #[.int .i64 a0_0, .int .i64 a0_1, .int .i64 a0_2, .int .i64 a0_3], .slice A19 (l1 ++ [X]).length c19] (by rfl) rfl rfl (by (try simp only [List.map_toArray, List.map_cons, List.map_nil]); first | done | rfl) ?_
  refine (attempts_points.calls 20 a0_0 a0_1 a0_2 a0_3 A19 c19 (l1 ++ [X]) _ _ hC19 hc19 HP.out).mono ?_
  rintro e wk2 ⟨rfl, hb⟩
  refine ⟨_, rfl, ?_⟩
  have hS := hHeld.trans (hb.mono hHeld.size)
  clear hHeld hb hC19 hc19
  refine hK.out _ _ hS (fun hHeld => ?_)
  clear hK K hS
  refine norm_ (a' := ?_) ?_ ?_
  rotate_left
  · show Act.put _ (some 20) _ = _
    simp only [Act.put, List.setIfInBounds_toArray, List.set_cons_zero, List.set_cons_succ, i64_w, i32_w]
    rfl
  refine pure_ (i := 8) (N := (some 22)) (v := ?_) (a' := ?_) #[true, true, true, true, true, true, true, true, true, false] rfl rfl (by kernel_rfl) (fun _ _ _ h => h) (Or.inl ⟨by rfl, ?_⟩) ?_ ?_
  rotate_left
  · intro w'
    go_simp
    with_reducible rfl
  rotate_left
  · simp only [Act.put, List.setIfInBounds_toArray, List.set_cons_zero, List.set_cons_succ, i64_w, i32_w]
    rfl
  refine pure_ (i := 9) (N := (some 5)) (v := ?_) (a' := ?_) #[true, true, true, true, true, true, true, true, true, true] rfl rfl (by kernel_rfl) (fun _ _ _ h => h) (Or.inl ⟨by rfl, ?_⟩) ?_ ?_
  rotate_left
  · intro w'
    go_simp
    with_reducible rfl
  rotate_left
  · simp only [Act.put, List.setIfInBounds_toArray, List.set_cons_zero, List.set_cons_succ, i64_w, i32_w]
    rfl
  refine done_ (by kernel_rfl) ?_
  go_wp2_with fail
  go_ret
  exact ⟨rfl, trans2 hHeld HB8.out⟩
end Go.Proofs.Ytdailoccmjeceaa.PAll
