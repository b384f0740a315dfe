/- What the machine's calls come to, function by function: printed by a program of this session after the kit's print; Lean checks it. -/
import Derived.Test.YtdailoccmjeceaaPAllx0
import Derived.Test.YtdailoccmjeceaaPAllxf36
import Derived.Test.YtdailoccmjeceaaPAllxf28
import Derived.Test.YtdailoccmjeceaaPAllxf27
import Derived.Test.YtdailoccmjeceaaT20
import Derived.Test.YtdailoccmjeceaaH4
namespace Go.Proofs.Ytdailoccmjeceaa.PAll
open Go.RowKit Go.Proofs.YtdailoccmjeceaaW.PrintWords Go.Proofs.YtdailoccmjeceaaW.PrintLast Go.Proofs.YtdailoccmjeceaaW.PrintMore
attribute [local go_sem] max2_int min2_int max_two min_two max_three min_three max_four min_four   -- for this text's walks alone
set_option linter.unusedVariables false
set_option linter.unusedSimpArgs false

/-! ### assessorlaw52_AttemptsBest: function 6 -/
mutual
def assessorlaw52_AttemptsBest.j0 : Nat → List (S38) → Int → Int → Int → Bool → Int → Int → Int → Int → Option (Bool)
  | 0, _, _, _, _, _, _, _, _, _ => none
  | k + 1, x1, x2, x3, x4, x39, x253000, x253001, x253002, x253003 => if x39 = true then (some true) else ((attempts_Final.f k 0 x253001 x253002 0 x1).bind fun bt256 => ((attempts_Final.f k x253000 x253001 x253002 x253003 x1).bind fun bt258 => ((api_Attempt.f x1).bind fun t260 => (if (x1.length : Int) = 0 then (none) else (if 0 ≤ (Int.tmod (wrap64 (x4)) (x1.length : Int)) then (if (Int.tmod (wrap64 (x4)) (x1.length : Int)) < (x1.length : Int) then (if 0 ≤ (Int.tmod (wrap64 (x3)) (x1.length : Int)) then (if (Int.tmod (wrap64 (x3)) (x1.length : Int)) < (x1.length : Int) then (if (Int.tmod (wrap64 (x3)) (x1.length : Int)) < (t260.length : Int) then ((some (t260.set ((Int.tmod (wrap64 (x3)) (x1.length : Int)) : Int).toNat (⟨(rd_T38 t260 (Int.tmod (wrap64 (x3)) (x1.length : Int))).f0, (rd_T38 t260 (Int.tmod (wrap64 (x3)) (x1.length : Int))).f1, (rd_T38 x1 (Int.tmod (wrap64 (x4)) (x1.length : Int))).f2⟩ : S38) : List (S38))).bind fun y265 => (if (Int.tmod (wrap64 (x4)) (x1.length : Int)) < (t260.length : Int) then ((some (y265.set ((Int.tmod (wrap64 (x4)) (x1.length : Int)) : Int).toNat (⟨(rd_T38 y265 (Int.tmod (wrap64 (x4)) (x1.length : Int))).f0, (rd_T38 y265 (Int.tmod (wrap64 (x4)) (x1.length : Int))).f1, (rd_T38 x1 (Int.tmod (wrap64 (x3)) (x1.length : Int))).f2⟩ : S38) : List (S38))).bind fun y266 => ((attempts_Final.f k 0 x253001 x253002 0 y266).bind fun bt267 => ((attempts_Final.f k x253000 x253001 x253002 x253003 y266).bind fun bt269 => (if bt256.2 = 0 then (if bt258.2 = 0 then (if bt267.2 = 0 then (if bt269.2 = 0 then (if bt258.1 > bt256.1 then (assessorlaw52_AttemptsBest.j1 k x1 x2 bt256.1 true x253000 x253001 x253002 x253003 0 x253001 x253002 0) else (if bt256.1 = bt267.1 then (if x253000 = 1 then (assessorlaw52_AttemptsBest.j1 k x1 x2 bt256.1 false x253000 x253001 x253002 x253003 0 x253001 x253002 0) else (assessorlaw52_AttemptsBest.j1 k x1 x2 bt256.1 (bt258.1 != bt269.1) x253000 x253001 x253002 x253003 0 x253001 x253002 0)) else (assessorlaw52_AttemptsBest.j1 k x1 x2 bt256.1 true x253000 x253001 x253002 x253003 0 x253001 x253002 0))) else (assessorlaw52_AttemptsBest.j1 k x1 x2 bt256.1 true x253000 x253001 x253002 x253003 0 x253001 x253002 0)) else (assessorlaw52_AttemptsBest.j1 k x1 x2 bt256.1 true x253000 x253001 x253002 x253003 0 x253001 x253002 0)) else (assessorlaw52_AttemptsBest.j1 k x1 x2 bt256.1 true x253000 x253001 x253002 x253003 0 x253001 x253002 0)) else (assessorlaw52_AttemptsBest.j1 k x1 x2 bt256.1 true x253000 x253001 x253002 x253003 0 x253001 x253002 0))))) else (none))) else (none)) else (none)) else (none)) else (none)) else (none))))))
def assessorlaw52_AttemptsBest.j1 : Nat → List (S38) → Int → Int → Bool → Int → Int → Int → Int → Int → Int → Int → Int → Option (Bool)
  | 0, _, _, _, _, _, _, _, _, _, _, _, _ => none
  | k + 1, x1, x2, x12, x132, x253000, x253001, x253002, x253003, x256000, x256001, x256002, x256003 => if x132 = true then (some false) else (if (x1.length : Int) = x253001 then (assessorlaw52_AttemptsBest.j2 k x1 x2 x12 true x256000 x256001 x256002 x256003) else (if x2 < 0 then (assessorlaw52_AttemptsBest.j2 k x1 x2 x12 true x256000 x256001 x256002 x256003) else (assessorlaw52_AttemptsBest.j2 k x1 x2 x12 (decide (x2 > 100000000)) x256000 x256001 x256002 x256003)))
def assessorlaw52_AttemptsBest.j2 : Nat → List (S38) → Int → Int → Bool → Int → Int → Int → Int → Option (Bool)
  | 0, _, _, _, _, _, _, _, _ => none
  | k + 1, x1, x2, x12, x145, x256000, x256001, x256002, x256003 => if x145 = true then (some true) else ((assessorlaw52_next.f x1 x2).bind fun t271 => ((attempts_Final.f k x256000 x256001 x256002 x256003 t271).bind fun bt274 => (if bt274.2 = 0 then (some (bt274.1 == (mx x12 x2))) else (some false))))
end
def assessorlaw52_AttemptsBest.f (k : Nat) (a0_0 : Int) (a0_1 : Int) (a0_2 : Int) (a0_3 : Int) (l1 : List (S38)) (a2 : Int) (a3 : Int) (a4 : Int) : Option (Bool) := (assessorlaw52_awake.f k).bind fun t253 => (if t253 = true then (if (l1.length : Int) > 20 then (assessorlaw52_AttemptsBest.j0 k l1 a2 a3 a4 true a0_0 a0_1 a0_2 a0_3) else (if (l1.length : Int) = 0 then (assessorlaw52_AttemptsBest.j0 k l1 a2 a3 a4 true a0_0 a0_1 a0_2 a0_3) else ((attempts_Valid.f k a0_0 a0_1 a0_2 a0_3 l1).bind fun t254 => (assessorlaw52_AttemptsBest.j0 k l1 a2 a3 a4 (!t254) a0_0 a0_1 a0_2 a0_3)))) else (some false))
theorem assessorlaw52_AttemptsBest.mono_l : ∀ k, (∀ y0 y1 y2 y3 y4 y5 y6 y7 y8, LeO (assessorlaw52_AttemptsBest.j0 k y0 y1 y2 y3 y4 y5 y6 y7 y8) (assessorlaw52_AttemptsBest.j0 (k + 1) y0 y1 y2 y3 y4 y5 y6 y7 y8)) ∧ (∀ y0 y1 y2 y3 y4 y5 y6 y7 y8 y9 y10 y11, LeO (assessorlaw52_AttemptsBest.j1 k y0 y1 y2 y3 y4 y5 y6 y7 y8 y9 y10 y11) (assessorlaw52_AttemptsBest.j1 (k + 1) y0 y1 y2 y3 y4 y5 y6 y7 y8 y9 y10 y11)) ∧ (∀ y0 y1 y2 y3 y4 y5 y6 y7, LeO (assessorlaw52_AttemptsBest.j2 k y0 y1 y2 y3 y4 y5 y6 y7) (assessorlaw52_AttemptsBest.j2 (k + 1) y0 y1 y2 y3 y4 y5 y6 y7))
  | 0 => ⟨fun _ _ _ _ _ _ _ _ _ r h => by simp [assessorlaw52_AttemptsBest.j0] at h, fun _ _ _ _ _ _ _ _ _ _ _ _ r h => by simp [assessorlaw52_AttemptsBest.j1] at h, fun _ _ _ _ _ _ _ _ r h => by simp [assessorlaw52_AttemptsBest.j2] at h⟩
  | k + 1 => by
    obtain ⟨ih0, ih1, ih2⟩ := assessorlaw52_AttemptsBest.mono_l k
    refine ⟨?_, ?_, ?_⟩
    · intro y0 y1 y2 y3 y4 y5 y6 y7 y8
      unfold assessorlaw52_AttemptsBest.j0
      repeat' first
      | (with_reducible exact ih0 _ _ _ _ _ _ _ _ _)
      | (with_reducible exact ih1 _ _ _ _ _ _ _ _ _ _ _ _)
      | (with_reducible exact ih2 _ _ _ _ _ _ _ _)
      | (with_reducible exact assessorlaw52_awake.mono _)
      | (with_reducible exact attempts_Final.mono _ _ _ _ _ _)
      | (with_reducible exact attempts_Valid.mono _ _ _ _ _ _)
      | (with_reducible exact LeO.refl _)
      | (with_reducible exact LeO.none _)
      | (with_reducible refine LeO.ite ?_ ?_)
      | (with_reducible refine LeO.bind ?_ (fun _ => ?_))
      | exact ih0 _ _ _ _ _ _ _ _ _
      | exact ih1 _ _ _ _ _ _ _ _ _ _ _ _
      | exact ih2 _ _ _ _ _ _ _ _
      | exact assessorlaw52_awake.mono _
      | exact attempts_Final.mono _ _ _ _ _ _
      | exact attempts_Valid.mono _ _ _ _ _ _
      | exact LeO.none _
      | refine LeO.ite ?_ ?_
      | refine LeO.bind ?_ (fun _ => ?_)
    · intro y0 y1 y2 y3 y4 y5 y6 y7 y8 y9 y10 y11
      unfold assessorlaw52_AttemptsBest.j1
      repeat' first
      | (with_reducible exact ih0 _ _ _ _ _ _ _ _ _)
      | (with_reducible exact ih1 _ _ _ _ _ _ _ _ _ _ _ _)
      | (with_reducible exact ih2 _ _ _ _ _ _ _ _)
      | (with_reducible exact assessorlaw52_awake.mono _)
      | (with_reducible exact attempts_Final.mono _ _ _ _ _ _)
      | (with_reducible exact attempts_Valid.mono _ _ _ _ _ _)
      | (with_reducible exact LeO.refl _)
      | (with_reducible exact LeO.none _)
      | (with_reducible refine LeO.ite ?_ ?_)
      | (with_reducible refine LeO.bind ?_ (fun _ => ?_))
      | exact ih0 _ _ _ _ _ _ _ _ _
      | exact ih1 _ _ _ _ _ _ _ _ _ _ _ _
      | exact ih2 _ _ _ _ _ _ _ _
      | exact assessorlaw52_awake.mono _
      | exact attempts_Final.mono _ _ _ _ _ _
      | exact attempts_Valid.mono _ _ _ _ _ _
      | exact LeO.none _
      | refine LeO.ite ?_ ?_
      | refine LeO.bind ?_ (fun _ => ?_)
    · intro y0 y1 y2 y3 y4 y5 y6 y7
      unfold assessorlaw52_AttemptsBest.j2
      repeat' first
      | (with_reducible exact ih0 _ _ _ _ _ _ _ _ _)
      | (with_reducible exact ih1 _ _ _ _ _ _ _ _ _ _ _ _)
      | (with_reducible exact ih2 _ _ _ _ _ _ _ _)
      | (with_reducible exact assessorlaw52_awake.mono _)
      | (with_reducible exact attempts_Final.mono _ _ _ _ _ _)
      | (with_reducible exact attempts_Valid.mono _ _ _ _ _ _)
      | (with_reducible exact LeO.refl _)
      | (with_reducible exact LeO.none _)
      | (with_reducible refine LeO.ite ?_ ?_)
      | (with_reducible refine LeO.bind ?_ (fun _ => ?_))
      | exact ih0 _ _ _ _ _ _ _ _ _
      | exact ih1 _ _ _ _ _ _ _ _ _ _ _ _
      | exact ih2 _ _ _ _ _ _ _ _
      | exact assessorlaw52_awake.mono _
      | exact attempts_Final.mono _ _ _ _ _ _
      | exact attempts_Valid.mono _ _ _ _ _ _
      | exact LeO.none _
      | refine LeO.ite ?_ ?_
      | refine LeO.bind ?_ (fun _ => ?_)
theorem assessorlaw52_AttemptsBest.mono : ∀ a0 a1 a2 a3 a4 a5 a6 a7 k, LeO (assessorlaw52_AttemptsBest.f k a0 a1 a2 a3 a4 a5 a6 a7) (assessorlaw52_AttemptsBest.f (k + 1) a0 a1 a2 a3 a4 a5 a6 a7) := by
  intro a0 a1 a2 a3 a4 a5 a6 a7 k
  obtain ⟨ih0, ih1, ih2⟩ := assessorlaw52_AttemptsBest.mono_l k
  unfold assessorlaw52_AttemptsBest.f
  repeat' first
      | (with_reducible exact ih0 _ _ _ _ _ _ _ _ _)
      | (with_reducible exact ih1 _ _ _ _ _ _ _ _ _ _ _ _)
      | (with_reducible exact ih2 _ _ _ _ _ _ _ _)
      | (with_reducible exact assessorlaw52_awake.mono _)
      | (with_reducible exact attempts_Final.mono _ _ _ _ _ _)
      | (with_reducible exact attempts_Valid.mono _ _ _ _ _ _)
      | (with_reducible exact LeO.refl _)
      | (with_reducible exact LeO.none _)
      | (with_reducible refine LeO.ite ?_ ?_)
      | (with_reducible refine LeO.bind ?_ (fun _ => ?_))
      | exact ih0 _ _ _ _ _ _ _ _ _
      | exact ih1 _ _ _ _ _ _ _ _ _ _ _ _
      | exact ih2 _ _ _ _ _ _ _ _
      | exact assessorlaw52_awake.mono _
      | exact attempts_Final.mono _ _ _ _ _ _
      | exact attempts_Valid.mono _ _ _ _ _ _
      | exact LeO.none _
      | refine LeO.ite ?_ ?_
      | refine LeO.bind ?_ (fun _ => ?_)
def assessorlaw52_AttemptsBest.T9 : Bool × List (List Nat × List Nat) := (true, [([], []), ([0], [0]), ([], []), ([2], [2]), ([1, 3], [1, 3]), ([], []), ([5], [5]), ([], []), ([7], [7]), ([6, 8], [6, 8]), ([4, 0, 1, 2, 3, 4], [4]), ([9, 10, 0, 1, 2, 3, 4, 5, 6, 7, 8, 9, 10], [9])])
def assessorlaw52_AttemptsBest.B9 : List Nat := [0, 1, 0, 4, 15, 0, 32, 0, 128, 480, 31, 2047]
theorem assessorlaw52_AttemptsBest.tab9 : rtab .any (opsOf Try.f6 9) = assessorlaw52_AttemptsBest.T9 := by kernel_rfl
theorem assessorlaw52_AttemptsBest.bits9 : waitsOk assessorlaw52_AttemptsBest.T9.2 assessorlaw52_AttemptsBest.B9 = true := by kernel_rfl
def assessorlaw52_AttemptsBest.T10 : Bool × List (List Nat × List Nat) := (true, [([], []), ([], []), ([], []), ([], []), ([], []), ([], []), ([4, 5], [4, 5]), ([6], [6]), ([7], [7]), ([], []), ([], []), ([9, 10], [9, 10]), ([11], [11]), ([12], [12]), ([0, 1, 0, 1, 4, 5, 6, 7, 8, 13], [0, 1]), ([14, 0, 1, 4, 5, 6, 7, 8, 13], [14]), ([15, 8, 0, 1, 4, 5, 6, 7, 8, 13], [8, 15]), ([2, 3, 0, 1, 2, 3, 4, 5, 6, 7, 8, 9, 10, 11, 12, 13, 14, 15, 16], [2, 3]), ([17, 0, 1, 2, 3, 4, 5, 6, 7, 8, 9, 10, 11, 12, 13, 14, 15, 16], [17]), ([18, 13, 16, 0, 1, 2, 3, 4, 5, 6, 7, 8, 9, 10, 11, 12, 13, 14, 15, 16], [13, 18])])
def assessorlaw52_AttemptsBest.B10 : List Nat := [0, 0, 0, 0, 0, 0, 48, 112, 240, 0, 0, 1536, 3584, 7680, 16371, 32755, 65523, 131071, 262143, 524287]
theorem assessorlaw52_AttemptsBest.tab10 : rtab .any (opsOf Try.f6 10) = assessorlaw52_AttemptsBest.T10 := by kernel_rfl
theorem assessorlaw52_AttemptsBest.bits10 : waitsOk assessorlaw52_AttemptsBest.T10.2 assessorlaw52_AttemptsBest.B10 = true := by kernel_rfl
def assessorlaw52_AttemptsBest.T17 : Bool × List (List Nat × List Nat) := (true, [([], []), ([], []), ([], []), ([1, 2], [1, 2]), ([0, 3, 3], [0, 3]), ([4], [4]), ([5], [5]), ([5], [5]), ([6, 4, 0, 1, 2, 3, 4, 5, 6], [6]), ([7, 8, 0, 1, 2, 3, 4, 5, 6, 7, 8], [7])])
def assessorlaw52_AttemptsBest.B17 : List Nat := [0, 0, 0, 6, 15, 31, 63, 63, 127, 511]
theorem assessorlaw52_AttemptsBest.tab17 : rtab .any (opsOf Try.f6 17) = assessorlaw52_AttemptsBest.T17 := by kernel_rfl
theorem assessorlaw52_AttemptsBest.bits17 : waitsOk assessorlaw52_AttemptsBest.T17.2 assessorlaw52_AttemptsBest.B17 = true := by kernel_rfl
set_option maxHeartbeats 8000000 in
set_option maxRecDepth 100000 in
theorem assessorlaw52_AttemptsBest.calls (k : Nat) (a0_0 : Int) (a0_1 : Int) (a0_2 : Int) (a0_3 : Int) (A1 : Option Addr) (c1 : Nat) (l1 : List (S38)) (a2 : Int) (a3 : Int) (a4 : Int) (r : Bool) (w : World) (hr1 : Kd.C k38 w A1 l1.length l1) (hc1 : l1.length ≤ c1) (h : assessorlaw52_AttemptsBest.f k a0_0 a0_1 a0_2 a0_3 l1 a2 a3 a4 = some r) :
    Calls Try.prog 6 #[.agg #[.int .i64 a0_0, .int .i64 a0_1, .int .i64 a0_2, .int .i64 a0_3], .slice A1 l1.length c1, .int .i64 a2, .int .u8 a3, .int .u8 a4] w fun e w' => e = .returned (.bool r) ∧ Below w.heap.size w w' := by
  have hu23 := Try.underlying23
  have HR1 := Aside0.mk hr1
  have HC1 := Aside0.mk hc1
  clear hr1 hc1
  have HB := Aside0.mk (Below.refl w.heap.size w)
  have H : ((assessorlaw52_awake.f k).bind fun t253 => (if t253 = true then (if (l1.length : Int) > 20 then (assessorlaw52_AttemptsBest.j0 k l1 a2 a3 a4 true a0_0 a0_1 a0_2 a0_3) else (if (l1.length : Int) = 0 then (assessorlaw52_AttemptsBest.j0 k l1 a2 a3 a4 true a0_0 a0_1 a0_2 a0_3) else ((attempts_Valid.f k a0_0 a0_1 a0_2 a0_3 l1).bind fun t254 => (assessorlaw52_AttemptsBest.j0 k l1 a2 a3 a4 (!t254) a0_0 a0_1 a0_2 a0_3)))) else (some false))) = some r := h
  clear h
  replace H := Option.bind_eq_some_iff.mp H
  obtain ⟨t253, A60, H⟩ := H
  replace H : (if t253 = true then (if (l1.length : Int) > 20 then (assessorlaw52_AttemptsBest.j0 k l1 a2 a3 a4 true a0_0 a0_1 a0_2 a0_3) else (if (l1.length : Int) = 0 then (assessorlaw52_AttemptsBest.j0 k l1 a2 a3 a4 true a0_0 a0_1 a0_2 a0_3) else ((attempts_Valid.f k a0_0 a0_1 a0_2 a0_3 l1).bind fun t254 => (assessorlaw52_AttemptsBest.j0 k l1 a2 a3 a4 (!t254) a0_0 a0_1 a0_2 a0_3)))) else (some false)) = some r := H
  have A6 := Aside0.mk A60
  clear A60
  by_cases c7 : t253 = true
  · subst c7
    have H1 : (if (l1.length : Int) > 20 then (assessorlaw52_AttemptsBest.j0 k l1 a2 a3 a4 true a0_0 a0_1 a0_2 a0_3) else (if (l1.length : Int) = 0 then (assessorlaw52_AttemptsBest.j0 k l1 a2 a3 a4 true a0_0 a0_1 a0_2 a0_3) else ((attempts_Valid.f k a0_0 a0_1 a0_2 a0_3 l1).bind fun t254 => (assessorlaw52_AttemptsBest.j0 k l1 a2 a3 a4 (!t254) a0_0 a0_1 a0_2 a0_3)))) = some r := by rw [if_pos rfl] at H; exact H
    clear H
    have H := H1
    clear H1
    have HC8 := Aside0.mk H
    clear H
    go_enter Try.func6, Try.ntmps6
    go_upto_region 3 with (first | ((with_reducible refine gate_dst (N := 5) rfl ?_); (try (refine gate_guard (by rfl) ?_; dsimp only)); refine box_event ?hg (N := 5) ?hd (cs := #[.int .i64 a0_0, .int .i64 a0_1, .int .i64 a0_2, .int .i64 a0_3]) (t := 23) ?hr ?_; (case hd => rfl); (case hg => rfl); (case hr => first | (go_simp; done) | (go_simp; rfl)); intro gb252 hg w9 hbox hb; have n0_ := Aside0.mk (below_step (by repeat (first | (with_reducible first | exact HB.out | apply below_alloc | apply pw_below_drewN | apply below_drew1) | exact HB.out)) hb); have n1_ := Aside0.mk (hbox); have n2_ := Aside0.mk ((by rw [hg]; exact (below_size (by repeat (first | (with_reducible first | exact HB.out | apply below_alloc | apply pw_below_drewN | apply below_drew1) | exact HB.out))) : w.heap.size ≤ gb252)); have n3_ := Aside0.mk ((by rw [hg]; exact (below_size (by repeat (first | (with_reducible first | exact HB.out | apply below_alloc | apply pw_below_drewN | apply below_drew1) | exact HB.out))) : w.heap.size ≤ gb252)); clear HB; have HB := n0_; have BK252 := n1_; have GW252 := n2_; have GE252 := n3_; clear n0_ n1_ n2_ n3_; clear hb hbox hg) | ((with_reducible refine gate_callee (f := 10) rfl ?_); refine goesL_ (some 24) rfl rfl Try.func10 (by kernel_rfl) rfl #[] rfl (by (try simp only [List.map_toArray, List.map_cons, List.map_nil]); first | done | rfl | (simp only [List.length_drop, List.length_take]; rfl)) ?_; (with_reducible refine (assessorlaw52_awake.calls k  true _ A6.out).mono ?_); rintro e w10 ⟨rfl, hb⟩; refine ⟨_, rfl, ?_⟩; have n0_ := Aside0.mk (blk_below (g := gb252) (o := .cells #[.int .i64 a0_0, .int .i64 a0_1, .int .i64 a0_2, .int .i64 a0_3] 23 (0, 0)) (by (with_reducible repeat (first | refine blk_drewN ?_ _ | refine blk_drew ?_ | refine blk_alloc ?_ _)); exact BK252.out) hb); have n1_ := Aside0.mk (below_step (by repeat (first | (with_reducible first | exact HB.out | apply below_alloc | apply pw_below_drewN | apply below_drew1 | refine below_set ?_ GE252.out) | exact HB.out)) hb); clear BK252; clear HB; have BK252 := n0_; have HB := n1_; clear n0_ n1_; (try clear hb); (try clear hb2); (try clear hk); (try clear hi)))
    (try simp only [Act.put, List.setIfInBounds_toArray, List.set_cons_zero, List.set_cons_succ])
    go_cut [39] (fun v39 wc => ∃ (kq : Nat) (x39_7 : Bool), v39 = .bool x39_7 ∧ Aside0 (assessorlaw52_AttemptsBest.j0 kq l1 a2 a3 a4 x39_7 a0_0 a0_1 a0_2 a0_3 = some r) ∧ Aside0 (kq ≤ k) ∧ Aside0 (wc.heap[gb252]? = some (.cells #[.int .i64 a0_0, .int .i64 a0_1, .int .i64 a0_2, .int .i64 a0_3] 23 (0, 0))) ∧ Aside0 (Below w.heap.size w wc))
    case first =>
      have H := HC8.out
      clear HC8
      by_cases c11 : (l1.length : Int) > 20
      · rw [if_pos c11] at H
        have c11b0 : decide (20 < (l1.length : Int)) = true := decide_eq_true c11
        have c11b1 : decide (20 < l1.length) = true := decide_eq_true (by omega)
        clear c11
        (first | rw [c11b0] | (simp only [i64_w, i32_w]; rw [c11b0]) | skip)
        have H' := Aside0.mk H
        clear H
        go_wp2
        go_meet
        case rel => exact ⟨_, (true), (by first | rfl | (simp; done) | (simp [*]; done)), H', ⟨by first | omega | exact Nat.le_refl _⟩, ⟨by (with_reducible repeat (first | refine blk_drewN ?_ _ | refine blk_drew ?_ | refine blk_alloc ?_ _)); exact BK252.out⟩, ⟨by repeat (first | (with_reducible first | exact HB.out | apply below_alloc | apply pw_below_drewN | apply below_drew1 | refine below_set ?_ GE252.out) | exact HB.out)⟩⟩
      · rw [if_neg c11] at H
        have c11b0 : decide (20 < (l1.length : Int)) = false := decide_eq_false c11
        have c11b1 : decide (20 < l1.length) = false := decide_eq_false (by omega)
        clear c11
        (first | rw [c11b0] | (simp only [i64_w, i32_w]; rw [c11b0]) | skip)
        by_cases c12 : (l1.length : Int) = 0
        · rw [if_pos c12] at H
          have c12b0 : ((l1.length : Int) == 0) = true := beq_iff_eq.mpr c12
          have c12b1 : ((l1.length : Int) != 0) = false := bne_eq_false_iff_eq.mpr c12
          clear c12
          have H' := Aside0.mk H
          clear H
          go_wp2
          go_meet
          case rel => exact ⟨_, (true), (by first | rfl | (simp; done) | (simp [*]; done)), H', ⟨by first | omega | exact Nat.le_refl _⟩, ⟨by (with_reducible repeat (first | refine blk_drewN ?_ _ | refine blk_drew ?_ | refine blk_alloc ?_ _)); exact BK252.out⟩, ⟨by repeat (first | (with_reducible first | exact HB.out | apply below_alloc | apply pw_below_drewN | apply below_drew1 | refine below_set ?_ GE252.out) | exact HB.out)⟩⟩
        · rw [if_neg c12] at H
          have c12b0 : ((l1.length : Int) == 0) = false := beq_eq_false_iff_ne.mpr c12
          have c12b1 : ((l1.length : Int) != 0) = true := bne_iff_ne.mpr c12
          have c12b2 : ¬ (l1 = []) := fun h_ => c12 (by rw [h_]; rfl)
          replace H := Option.bind_eq_some_iff.mp H
          obtain ⟨t254, A130, H⟩ := H
          replace H : (assessorlaw52_AttemptsBest.j0 k l1 a2 a3 a4 (!t254) a0_0 a0_1 a0_2 a0_3) = some r := H
          have A13 := Aside0.mk A130
          clear A130
          have H' := Aside0.mk H
          clear H
          have hcz14_0 : w10.cell? ⟨gb252, 0, none⟩ = some (.int .i64 a0_0) := (blk_cell BK252.out 0).trans rfl
          have hcz14_1 : w10.cell? ⟨gb252, 1, none⟩ = some (.int .i64 a0_1) := (blk_cell BK252.out 1).trans rfl
          have hcz14_2 : w10.cell? ⟨gb252, 2, none⟩ = some (.int .i64 a0_2) := (blk_cell BK252.out 2).trans rfl
          have hcz14_3 : w10.cell? ⟨gb252, 3, none⟩ = some (.int .i64 a0_3) := (blk_cell BK252.out 3).trans rfl
          have hfz14_0 := blk_frozen BK252.out 0
          have hfz14_1 := blk_frozen BK252.out 1
          have hfz14_2 := blk_frozen BK252.out 2
          have hfz14_3 := blk_frozen BK252.out 3
          go_wp2_with (first | (go_at_call 18; (with_reducible refine (attempts_Valid.calls k a0_0 a0_1 a0_2 a0_3 _ _ l1 t254 _ ?side1 ?side2 A13.out).mono ?_); (case side1 => repeat (first | exact (Kd.C_below HR1.out HB.out) | (with_reducible refine Kd.C_alloc ?_ _) | (with_reducible refine Kd.C_drewN ?_ _) | (with_reducible refine Kd.C_drew ?_))); (case side2 => exact HC1.out); rintro e w15 ⟨rfl, hb⟩; have n0_ := Aside0.mk (blk_below (g := gb252) (o := .cells #[.int .i64 a0_0, .int .i64 a0_1, .int .i64 a0_2, .int .i64 a0_3] 23 (0, 0)) (by (with_reducible repeat (first | refine blk_drewN ?_ _ | refine blk_drew ?_ | refine blk_alloc ?_ _)); exact BK252.out) hb); have n1_ := Aside0.mk (below_step (by repeat (first | (with_reducible first | exact HB.out | apply below_alloc | apply pw_below_drewN | apply below_drew1 | refine below_set ?_ GE252.out) | exact HB.out)) hb); clear BK252; clear HB; have BK252 := n0_; have HB := n1_; clear n0_ n1_; (try clear hb); (try clear hb2); (try clear hk); (try clear hi)))
          go_meet
          case rel => exact ⟨_, (!t254), (by first | rfl | (simp; done) | (simp [*]; done)), H', ⟨by first | omega | exact Nat.le_refl _⟩, ⟨by (with_reducible repeat (first | refine blk_drewN ?_ _ | refine blk_drew ?_ | refine blk_alloc ?_ _)); exact BK252.out⟩, ⟨by repeat (first | (with_reducible first | exact HB.out | apply below_alloc | apply pw_below_drewN | apply below_drew1 | refine below_set ?_ GE252.out) | exact HB.out)⟩⟩
    case rest =>
      clear HC8
      try clear c1
      try clear p2
      try clear c6
      try clear c7
      try clear c10
      try clear c11
      try clear c11b0
      try clear c11b1
      try clear c12
      try clear c12b0
      try clear c12b1
      try clear c12b2
      try clear hcz14_0
      try clear hcz14_1
      try clear hcz14_2
      try clear hcz14_3
      try clear hfz14_0
      try clear hfz14_1
      try clear hfz14_2
      try clear hfz14_3
      obtain ⟨kq, x39_7, rfl, HA, HJ7, BK252, HB⟩ := hcut
      cases kq with
      | zero => exact absurd HA.out (by simp [assessorlaw52_AttemptsBest.j0])
      | succ kj7 =>
        have H := HA.out
        clear HA
        simp only [assessorlaw52_AttemptsBest.j0] at H
        by_cases c16 : x39_7 = true
        · subst c16
          have H1 : (some true) = some r := by rw [if_pos rfl] at H; exact H
          clear H
          have H := H1
          clear H1
          obtain rfl := Option.some.inj H
          go_wp2
          go_ret
          exact ⟨by first | rfl | (simp [errW_none, errW_some] <;> rfl) | (simp [*, errW_none, errW_some] <;> rfl) | (simp [IntKind.wrap_i64, wrap64]; done), by repeat (first | (with_reducible first | exact HB.out | apply below_alloc | apply pw_below_drewN | apply below_drew1 | refine below_set ?_ GE252.out) | exact HB.out)⟩
        · replace c16 := Bool.eq_false_iff.mpr c16
          subst c16
          have H1 : ((attempts_Final.f kj7 0 a0_1 a0_2 0 l1).bind fun bt256 => ((attempts_Final.f kj7 a0_0 a0_1 a0_2 a0_3 l1).bind fun bt258 => ((api_Attempt.f l1).bind fun t260 => (if (l1.length : Int) = 0 then (none) else (if 0 ≤ (Int.tmod (wrap64 (a4)) (l1.length : Int)) then (if (Int.tmod (wrap64 (a4)) (l1.length : Int)) < (l1.length : Int) then (if 0 ≤ (Int.tmod (wrap64 (a3)) (l1.length : Int)) then (if (Int.tmod (wrap64 (a3)) (l1.length : Int)) < (l1.length : Int) then (if (Int.tmod (wrap64 (a3)) (l1.length : Int)) < (t260.length : Int) then ((some (t260.set ((Int.tmod (wrap64 (a3)) (l1.length : Int)) : Int).toNat (⟨(rd_T38 t260 (Int.tmod (wrap64 (a3)) (l1.length : Int))).f0, (rd_T38 t260 (Int.tmod (wrap64 (a3)) (l1.length : Int))).f1, (rd_T38 l1 (Int.tmod (wrap64 (a4)) (l1.length : Int))).f2⟩ : S38) : List (S38))).bind fun y265 => (if (Int.tmod (wrap64 (a4)) (l1.length : Int)) < (t260.length : Int) then ((some (y265.set ((Int.tmod (wrap64 (a4)) (l1.length : Int)) : Int).toNat (⟨(rd_T38 y265 (Int.tmod (wrap64 (a4)) (l1.length : Int))).f0, (rd_T38 y265 (Int.tmod (wrap64 (a4)) (l1.length : Int))).f1, (rd_T38 l1 (Int.tmod (wrap64 (a3)) (l1.length : Int))).f2⟩ : S38) : List (S38))).bind fun y266 => ((attempts_Final.f kj7 0 a0_1 a0_2 0 y266).bind fun bt267 => ((attempts_Final.f kj7 a0_0 a0_1 a0_2 a0_3 y266).bind fun bt269 => (if bt256.2 = 0 then (if bt258.2 = 0 then (if bt267.2 = 0 then (if bt269.2 = 0 then (if bt258.1 > bt256.1 then (assessorlaw52_AttemptsBest.j1 kj7 l1 a2 bt256.1 true a0_0 a0_1 a0_2 a0_3 0 a0_1 a0_2 0) else (if bt256.1 = bt267.1 then (if a0_0 = 1 then (assessorlaw52_AttemptsBest.j1 kj7 l1 a2 bt256.1 false a0_0 a0_1 a0_2 a0_3 0 a0_1 a0_2 0) else (assessorlaw52_AttemptsBest.j1 kj7 l1 a2 bt256.1 (bt258.1 != bt269.1) a0_0 a0_1 a0_2 a0_3 0 a0_1 a0_2 0)) else (assessorlaw52_AttemptsBest.j1 kj7 l1 a2 bt256.1 true a0_0 a0_1 a0_2 a0_3 0 a0_1 a0_2 0))) else (assessorlaw52_AttemptsBest.j1 kj7 l1 a2 bt256.1 true a0_0 a0_1 a0_2 a0_3 0 a0_1 a0_2 0)) else (assessorlaw52_AttemptsBest.j1 kj7 l1 a2 bt256.1 true a0_0 a0_1 a0_2 a0_3 0 a0_1 a0_2 0)) else (assessorlaw52_AttemptsBest.j1 kj7 l1 a2 bt256.1 true a0_0 a0_1 a0_2 a0_3 0 a0_1 a0_2 0)) else (assessorlaw52_AttemptsBest.j1 kj7 l1 a2 bt256.1 true a0_0 a0_1 a0_2 a0_3 0 a0_1 a0_2 0))))) else (none))) else (none)) else (none)) else (none)) else (none)) else (none)))))) = some r := by rw [if_neg (show ¬ (false = true) by decide)] at H; exact H
          clear H
          have H := H1
          clear H1
          replace H := Option.bind_eq_some_iff.mp H
          obtain ⟨⟨t256, t257⟩, A170, H⟩ := H
          replace H : ((attempts_Final.f kj7 a0_0 a0_1 a0_2 a0_3 l1).bind fun bt258 => ((api_Attempt.f l1).bind fun t260 => (if (l1.length : Int) = 0 then (none) else (if 0 ≤ (Int.tmod (wrap64 (a4)) (l1.length : Int)) then (if (Int.tmod (wrap64 (a4)) (l1.length : Int)) < (l1.length : Int) then (if 0 ≤ (Int.tmod (wrap64 (a3)) (l1.length : Int)) then (if (Int.tmod (wrap64 (a3)) (l1.length : Int)) < (l1.length : Int) then (if (Int.tmod (wrap64 (a3)) (l1.length : Int)) < (t260.length : Int) then ((some (t260.set ((Int.tmod (wrap64 (a3)) (l1.length : Int)) : Int).toNat (⟨(rd_T38 t260 (Int.tmod (wrap64 (a3)) (l1.length : Int))).f0, (rd_T38 t260 (Int.tmod (wrap64 (a3)) (l1.length : Int))).f1, (rd_T38 l1 (Int.tmod (wrap64 (a4)) (l1.length : Int))).f2⟩ : S38) : List (S38))).bind fun y265 => (if (Int.tmod (wrap64 (a4)) (l1.length : Int)) < (t260.length : Int) then ((some (y265.set ((Int.tmod (wrap64 (a4)) (l1.length : Int)) : Int).toNat (⟨(rd_T38 y265 (Int.tmod (wrap64 (a4)) (l1.length : Int))).f0, (rd_T38 y265 (Int.tmod (wrap64 (a4)) (l1.length : Int))).f1, (rd_T38 l1 (Int.tmod (wrap64 (a3)) (l1.length : Int))).f2⟩ : S38) : List (S38))).bind fun y266 => ((attempts_Final.f kj7 0 a0_1 a0_2 0 y266).bind fun bt267 => ((attempts_Final.f kj7 a0_0 a0_1 a0_2 a0_3 y266).bind fun bt269 => (if t257 = 0 then (if bt258.2 = 0 then (if bt267.2 = 0 then (if bt269.2 = 0 then (if bt258.1 > t256 then (assessorlaw52_AttemptsBest.j1 kj7 l1 a2 t256 true a0_0 a0_1 a0_2 a0_3 0 a0_1 a0_2 0) else (if t256 = bt267.1 then (if a0_0 = 1 then (assessorlaw52_AttemptsBest.j1 kj7 l1 a2 t256 false a0_0 a0_1 a0_2 a0_3 0 a0_1 a0_2 0) else (assessorlaw52_AttemptsBest.j1 kj7 l1 a2 t256 (bt258.1 != bt269.1) a0_0 a0_1 a0_2 a0_3 0 a0_1 a0_2 0)) else (assessorlaw52_AttemptsBest.j1 kj7 l1 a2 t256 true a0_0 a0_1 a0_2 a0_3 0 a0_1 a0_2 0))) else (assessorlaw52_AttemptsBest.j1 kj7 l1 a2 t256 true a0_0 a0_1 a0_2 a0_3 0 a0_1 a0_2 0)) else (assessorlaw52_AttemptsBest.j1 kj7 l1 a2 t256 true a0_0 a0_1 a0_2 a0_3 0 a0_1 a0_2 0)) else (assessorlaw52_AttemptsBest.j1 kj7 l1 a2 t256 true a0_0 a0_1 a0_2 a0_3 0 a0_1 a0_2 0)) else (assessorlaw52_AttemptsBest.j1 kj7 l1 a2 t256 true a0_0 a0_1 a0_2 a0_3 0 a0_1 a0_2 0))))) else (none))) else (none)) else (none)) else (none)) else (none)) else (none))))) = some r := H
          have A17 := Aside0.mk A170
          clear A170
          replace H := Option.bind_eq_some_iff.mp H
          obtain ⟨⟨t258, t259⟩, A180, H⟩ := H
          replace H : ((api_Attempt.f l1).bind fun t260 => (if (l1.length : Int) = 0 then (none) else (if 0 ≤ (Int.tmod (wrap64 (a4)) (l1.length : Int)) then (if (Int.tmod (wrap64 (a4)) (l1.length : Int)) < (l1.length : Int) then (if 0 ≤ (Int.tmod (wrap64 (a3)) (l1.length : Int)) then (if (Int.tmod (wrap64 (a3)) (l1.length : Int)) < (l1.length : Int) then (if (Int.tmod (wrap64 (a3)) (l1.length : Int)) < (t260.length : Int) then ((some (t260.set ((Int.tmod (wrap64 (a3)) (l1.length : Int)) : Int).toNat (⟨(rd_T38 t260 (Int.tmod (wrap64 (a3)) (l1.length : Int))).f0, (rd_T38 t260 (Int.tmod (wrap64 (a3)) (l1.length : Int))).f1, (rd_T38 l1 (Int.tmod (wrap64 (a4)) (l1.length : Int))).f2⟩ : S38) : List (S38))).bind fun y265 => (if (Int.tmod (wrap64 (a4)) (l1.length : Int)) < (t260.length : Int) then ((some (y265.set ((Int.tmod (wrap64 (a4)) (l1.length : Int)) : Int).toNat (⟨(rd_T38 y265 (Int.tmod (wrap64 (a4)) (l1.length : Int))).f0, (rd_T38 y265 (Int.tmod (wrap64 (a4)) (l1.length : Int))).f1, (rd_T38 l1 (Int.tmod (wrap64 (a3)) (l1.length : Int))).f2⟩ : S38) : List (S38))).bind fun y266 => ((attempts_Final.f kj7 0 a0_1 a0_2 0 y266).bind fun bt267 => ((attempts_Final.f kj7 a0_0 a0_1 a0_2 a0_3 y266).bind fun bt269 => (if t257 = 0 then (if t259 = 0 then (if bt267.2 = 0 then (if bt269.2 = 0 then (if t258 > t256 then (assessorlaw52_AttemptsBest.j1 kj7 l1 a2 t256 true a0_0 a0_1 a0_2 a0_3 0 a0_1 a0_2 0) else (if t256 = bt267.1 then (if a0_0 = 1 then (assessorlaw52_AttemptsBest.j1 kj7 l1 a2 t256 false a0_0 a0_1 a0_2 a0_3 0 a0_1 a0_2 0) else (assessorlaw52_AttemptsBest.j1 kj7 l1 a2 t256 (t258 != bt269.1) a0_0 a0_1 a0_2 a0_3 0 a0_1 a0_2 0)) else (assessorlaw52_AttemptsBest.j1 kj7 l1 a2 t256 true a0_0 a0_1 a0_2 a0_3 0 a0_1 a0_2 0))) else (assessorlaw52_AttemptsBest.j1 kj7 l1 a2 t256 true a0_0 a0_1 a0_2 a0_3 0 a0_1 a0_2 0)) else (assessorlaw52_AttemptsBest.j1 kj7 l1 a2 t256 true a0_0 a0_1 a0_2 a0_3 0 a0_1 a0_2 0)) else (assessorlaw52_AttemptsBest.j1 kj7 l1 a2 t256 true a0_0 a0_1 a0_2 a0_3 0 a0_1 a0_2 0)) else (assessorlaw52_AttemptsBest.j1 kj7 l1 a2 t256 true a0_0 a0_1 a0_2 a0_3 0 a0_1 a0_2 0))))) else (none))) else (none)) else (none)) else (none)) else (none)) else (none)))) = some r := H
          have A18 := Aside0.mk A180
          clear A180
          replace H := Option.bind_eq_some_iff.mp H
          obtain ⟨t260, A190, H⟩ := H
          replace H : (if (l1.length : Int) = 0 then (none) else (if 0 ≤ (Int.tmod (wrap64 (a4)) (l1.length : Int)) then (if (Int.tmod (wrap64 (a4)) (l1.length : Int)) < (l1.length : Int) then (if 0 ≤ (Int.tmod (wrap64 (a3)) (l1.length : Int)) then (if (Int.tmod (wrap64 (a3)) (l1.length : Int)) < (l1.length : Int) then (if (Int.tmod (wrap64 (a3)) (l1.length : Int)) < (t260.length : Int) then ((some (t260.set ((Int.tmod (wrap64 (a3)) (l1.length : Int)) : Int).toNat (⟨(rd_T38 t260 (Int.tmod (wrap64 (a3)) (l1.length : Int))).f0, (rd_T38 t260 (Int.tmod (wrap64 (a3)) (l1.length : Int))).f1, (rd_T38 l1 (Int.tmod (wrap64 (a4)) (l1.length : Int))).f2⟩ : S38) : List (S38))).bind fun y265 => (if (Int.tmod (wrap64 (a4)) (l1.length : Int)) < (t260.length : Int) then ((some (y265.set ((Int.tmod (wrap64 (a4)) (l1.length : Int)) : Int).toNat (⟨(rd_T38 y265 (Int.tmod (wrap64 (a4)) (l1.length : Int))).f0, (rd_T38 y265 (Int.tmod (wrap64 (a4)) (l1.length : Int))).f1, (rd_T38 l1 (Int.tmod (wrap64 (a3)) (l1.length : Int))).f2⟩ : S38) : List (S38))).bind fun y266 => ((attempts_Final.f kj7 0 a0_1 a0_2 0 y266).bind fun bt267 => ((attempts_Final.f kj7 a0_0 a0_1 a0_2 a0_3 y266).bind fun bt269 => (if t257 = 0 then (if t259 = 0 then (if bt267.2 = 0 then (if bt269.2 = 0 then (if t258 > t256 then (assessorlaw52_AttemptsBest.j1 kj7 l1 a2 t256 true a0_0 a0_1 a0_2 a0_3 0 a0_1 a0_2 0) else (if t256 = bt267.1 then (if a0_0 = 1 then (assessorlaw52_AttemptsBest.j1 kj7 l1 a2 t256 false a0_0 a0_1 a0_2 a0_3 0 a0_1 a0_2 0) else (assessorlaw52_AttemptsBest.j1 kj7 l1 a2 t256 (t258 != bt269.1) a0_0 a0_1 a0_2 a0_3 0 a0_1 a0_2 0)) else (assessorlaw52_AttemptsBest.j1 kj7 l1 a2 t256 true a0_0 a0_1 a0_2 a0_3 0 a0_1 a0_2 0))) else (assessorlaw52_AttemptsBest.j1 kj7 l1 a2 t256 true a0_0 a0_1 a0_2 a0_3 0 a0_1 a0_2 0)) else (assessorlaw52_AttemptsBest.j1 kj7 l1 a2 t256 true a0_0 a0_1 a0_2 a0_3 0 a0_1 a0_2 0)) else (assessorlaw52_AttemptsBest.j1 kj7 l1 a2 t256 true a0_0 a0_1 a0_2 a0_3 0 a0_1 a0_2 0)) else (assessorlaw52_AttemptsBest.j1 kj7 l1 a2 t256 true a0_0 a0_1 a0_2 a0_3 0 a0_1 a0_2 0))))) else (none))) else (none)) else (none)) else (none)) else (none)) else (none))) = some r := H
          have A19 := Aside0.mk A190
          clear A190
          by_cases c20 : (l1.length : Int) = 0
          · rw [if_pos c20] at H
            exact absurd H (by simp)
          · rw [if_neg c20] at H
            have c20b0 : ((l1.length : Int) == 0) = false := beq_eq_false_iff_ne.mpr c20
            have c20b1 : ((l1.length : Int) != 0) = true := bne_iff_ne.mpr c20
            have c20b2 : ¬ (l1 = []) := fun h_ => c20 (by rw [h_]; rfl)
            obtain ⟨ji21, hji21⟩ : ∃ j_ : Int, (Int.tmod (wrap64 (a4)) (l1.length : Int)) = j_ := ⟨_, rfl⟩
            replace H : (if 0 ≤ (ji21) then (if (ji21) < (l1.length : Int) then (if 0 ≤ (Int.tmod (wrap64 (a3)) (l1.length : Int)) then (if (Int.tmod (wrap64 (a3)) (l1.length : Int)) < (l1.length : Int) then (if (Int.tmod (wrap64 (a3)) (l1.length : Int)) < (t260.length : Int) then ((some (t260.set ((Int.tmod (wrap64 (a3)) (l1.length : Int)) : Int).toNat (⟨(rd_T38 t260 (Int.tmod (wrap64 (a3)) (l1.length : Int))).f0, (rd_T38 t260 (Int.tmod (wrap64 (a3)) (l1.length : Int))).f1, (rd_T38 l1 (ji21)).f2⟩ : S38) : List (S38))).bind fun y265 => (if (ji21) < (t260.length : Int) then ((some (y265.set ((ji21) : Int).toNat (⟨(rd_T38 y265 (ji21)).f0, (rd_T38 y265 (ji21)).f1, (rd_T38 l1 (Int.tmod (wrap64 (a3)) (l1.length : Int))).f2⟩ : S38) : List (S38))).bind fun y266 => ((attempts_Final.f kj7 0 a0_1 a0_2 0 y266).bind fun bt267 => ((attempts_Final.f kj7 a0_0 a0_1 a0_2 a0_3 y266).bind fun bt269 => (if t257 = 0 then (if t259 = 0 then (if bt267.2 = 0 then (if bt269.2 = 0 then (if t258 > t256 then (assessorlaw52_AttemptsBest.j1 kj7 l1 a2 t256 true a0_0 a0_1 a0_2 a0_3 0 a0_1 a0_2 0) else (if t256 = bt267.1 then (if a0_0 = 1 then (assessorlaw52_AttemptsBest.j1 kj7 l1 a2 t256 false a0_0 a0_1 a0_2 a0_3 0 a0_1 a0_2 0) else (assessorlaw52_AttemptsBest.j1 kj7 l1 a2 t256 (t258 != bt269.1) a0_0 a0_1 a0_2 a0_3 0 a0_1 a0_2 0)) else (assessorlaw52_AttemptsBest.j1 kj7 l1 a2 t256 true a0_0 a0_1 a0_2 a0_3 0 a0_1 a0_2 0))) else (assessorlaw52_AttemptsBest.j1 kj7 l1 a2 t256 true a0_0 a0_1 a0_2 a0_3 0 a0_1 a0_2 0)) else (assessorlaw52_AttemptsBest.j1 kj7 l1 a2 t256 true a0_0 a0_1 a0_2 a0_3 0 a0_1 a0_2 0)) else (assessorlaw52_AttemptsBest.j1 kj7 l1 a2 t256 true a0_0 a0_1 a0_2 a0_3 0 a0_1 a0_2 0)) else (assessorlaw52_AttemptsBest.j1 kj7 l1 a2 t256 true a0_0 a0_1 a0_2 a0_3 0 a0_1 a0_2 0))))) else (none))) else (none)) else (none)) else (none)) else (none)) else (none)) = some r := by first | (rw [hji21] at H; exact H) | (simp only [hji21] at H ⊢; exact H)
            (try rw [hji21] at A17)
            (try rw [hji21] at A18)
            (try rw [hji21] at A19)
            by_cases c22 : 0 ≤ (ji21)
            · rw [if_pos c22] at H
              have c22b0 : decide (0 ≤ (ji21)) = true := decide_eq_true c22
              clear c22
              by_cases c23 : (ji21) < (l1.length : Int)
              · rw [if_pos c23] at H
                have c23b0 : decide ((ji21) < (l1.length : Int)) = true := decide_eq_true c23
                clear c23
                obtain ⟨ji24, hji24⟩ : ∃ j_ : Int, (Int.tmod (wrap64 (a3)) (l1.length : Int)) = j_ := ⟨_, rfl⟩
                replace H : (if 0 ≤ (ji24) then (if (ji24) < (l1.length : Int) then (if (ji24) < (t260.length : Int) then ((some (t260.set ((ji24) : Int).toNat (⟨(rd_T38 t260 (ji24)).f0, (rd_T38 t260 (ji24)).f1, (rd_T38 l1 (ji21)).f2⟩ : S38) : List (S38))).bind fun y265 => (if (ji21) < (t260.length : Int) then ((some (y265.set ((ji21) : Int).toNat (⟨(rd_T38 y265 (ji21)).f0, (rd_T38 y265 (ji21)).f1, (rd_T38 l1 (ji24)).f2⟩ : S38) : List (S38))).bind fun y266 => ((attempts_Final.f kj7 0 a0_1 a0_2 0 y266).bind fun bt267 => ((attempts_Final.f kj7 a0_0 a0_1 a0_2 a0_3 y266).bind fun bt269 => (if t257 = 0 then (if t259 = 0 then (if bt267.2 = 0 then (if bt269.2 = 0 then (if t258 > t256 then (assessorlaw52_AttemptsBest.j1 kj7 l1 a2 t256 true a0_0 a0_1 a0_2 a0_3 0 a0_1 a0_2 0) else (if t256 = bt267.1 then (if a0_0 = 1 then (assessorlaw52_AttemptsBest.j1 kj7 l1 a2 t256 false a0_0 a0_1 a0_2 a0_3 0 a0_1 a0_2 0) else (assessorlaw52_AttemptsBest.j1 kj7 l1 a2 t256 (t258 != bt269.1) a0_0 a0_1 a0_2 a0_3 0 a0_1 a0_2 0)) else (assessorlaw52_AttemptsBest.j1 kj7 l1 a2 t256 true a0_0 a0_1 a0_2 a0_3 0 a0_1 a0_2 0))) else (assessorlaw52_AttemptsBest.j1 kj7 l1 a2 t256 true a0_0 a0_1 a0_2 a0_3 0 a0_1 a0_2 0)) else (assessorlaw52_AttemptsBest.j1 kj7 l1 a2 t256 true a0_0 a0_1 a0_2 a0_3 0 a0_1 a0_2 0)) else (assessorlaw52_AttemptsBest.j1 kj7 l1 a2 t256 true a0_0 a0_1 a0_2 a0_3 0 a0_1 a0_2 0)) else (assessorlaw52_AttemptsBest.j1 kj7 l1 a2 t256 true a0_0 a0_1 a0_2 a0_3 0 a0_1 a0_2 0))))) else (none))) else (none)) else (none)) else (none)) = some r := by first | (rw [hji24] at H; exact H) | (simp only [hji24] at H ⊢; exact H)
                (try rw [hji24] at A17)
                (try rw [hji24] at A18)
                (try rw [hji24] at A19)
                by_cases c25 : 0 ≤ (ji24)
                · rw [if_pos c25] at H
                  have c25b0 : decide (0 ≤ (ji24)) = true := decide_eq_true c25
                  clear c25
                  by_cases c26 : (ji24) < (l1.length : Int)
                  · rw [if_pos c26] at H
                    have c26b0 : decide ((ji24) < (l1.length : Int)) = true := decide_eq_true c26
                    clear c26
                    by_cases c27 : (ji24) < (t260.length : Int)
                    · rw [if_pos c27] at H
                      have c27b0 : decide ((ji24) < (t260.length : Int)) = true := decide_eq_true c27
                      clear c27
                      obtain ⟨y265, hy265⟩ : ∃ y_ : List (S38), y_ = (t260.set ((ji24) : Int).toNat (⟨(rd_T38 t260 (ji24)).f0, (rd_T38 t260 (ji24)).f1, (rd_T38 l1 (ji21)).f2⟩ : S38)) := ⟨_, rfl⟩
                      replace H : (if (ji21) < (t260.length : Int) then ((some (y265.set ((ji21) : Int).toNat (⟨(rd_T38 y265 (ji21)).f0, (rd_T38 y265 (ji21)).f1, (rd_T38 l1 (ji24)).f2⟩ : S38) : List (S38))).bind fun y266 => ((attempts_Final.f kj7 0 a0_1 a0_2 0 y266).bind fun bt267 => ((attempts_Final.f kj7 a0_0 a0_1 a0_2 a0_3 y266).bind fun bt269 => (if t257 = 0 then (if t259 = 0 then (if bt267.2 = 0 then (if bt269.2 = 0 then (if t258 > t256 then (assessorlaw52_AttemptsBest.j1 kj7 l1 a2 t256 true a0_0 a0_1 a0_2 a0_3 0 a0_1 a0_2 0) else (if t256 = bt267.1 then (if a0_0 = 1 then (assessorlaw52_AttemptsBest.j1 kj7 l1 a2 t256 false a0_0 a0_1 a0_2 a0_3 0 a0_1 a0_2 0) else (assessorlaw52_AttemptsBest.j1 kj7 l1 a2 t256 (t258 != bt269.1) a0_0 a0_1 a0_2 a0_3 0 a0_1 a0_2 0)) else (assessorlaw52_AttemptsBest.j1 kj7 l1 a2 t256 true a0_0 a0_1 a0_2 a0_3 0 a0_1 a0_2 0))) else (assessorlaw52_AttemptsBest.j1 kj7 l1 a2 t256 true a0_0 a0_1 a0_2 a0_3 0 a0_1 a0_2 0)) else (assessorlaw52_AttemptsBest.j1 kj7 l1 a2 t256 true a0_0 a0_1 a0_2 a0_3 0 a0_1 a0_2 0)) else (assessorlaw52_AttemptsBest.j1 kj7 l1 a2 t256 true a0_0 a0_1 a0_2 a0_3 0 a0_1 a0_2 0)) else (assessorlaw52_AttemptsBest.j1 kj7 l1 a2 t256 true a0_0 a0_1 a0_2 a0_3 0 a0_1 a0_2 0))))) else (none)) = some r := by first | (rw [hy265]; with_reducible exact H) | (have H2_ := (Option.bind_some _ _).symm.trans H; rw [hy265]; with_reducible exact H2_) | (have H2_ := (Option.bind_some _ _).symm.trans H; with_reducible exact H2_) | with_reducible exact H | (rw [hy265]; exact H) | exact H
                      have Ny265 := Aside0.mk hy265
                      clear hy265
                      by_cases c29 : (ji21) < (t260.length : Int)
                      · rw [if_pos c29] at H
                        have c29b0 : decide ((ji21) < (t260.length : Int)) = true := decide_eq_true c29
                        clear c29
                        obtain ⟨y266, hy266⟩ : ∃ y_ : List (S38), y_ = (y265.set ((ji21) : Int).toNat (⟨(rd_T38 y265 (ji21)).f0, (rd_T38 y265 (ji21)).f1, (rd_T38 l1 (ji24)).f2⟩ : S38)) := ⟨_, rfl⟩
                        replace H : ((attempts_Final.f kj7 0 a0_1 a0_2 0 y266).bind fun bt267 => ((attempts_Final.f kj7 a0_0 a0_1 a0_2 a0_3 y266).bind fun bt269 => (if t257 = 0 then (if t259 = 0 then (if bt267.2 = 0 then (if bt269.2 = 0 then (if t258 > t256 then (assessorlaw52_AttemptsBest.j1 kj7 l1 a2 t256 true a0_0 a0_1 a0_2 a0_3 0 a0_1 a0_2 0) else (if t256 = bt267.1 then (if a0_0 = 1 then (assessorlaw52_AttemptsBest.j1 kj7 l1 a2 t256 false a0_0 a0_1 a0_2 a0_3 0 a0_1 a0_2 0) else (assessorlaw52_AttemptsBest.j1 kj7 l1 a2 t256 (t258 != bt269.1) a0_0 a0_1 a0_2 a0_3 0 a0_1 a0_2 0)) else (assessorlaw52_AttemptsBest.j1 kj7 l1 a2 t256 true a0_0 a0_1 a0_2 a0_3 0 a0_1 a0_2 0))) else (assessorlaw52_AttemptsBest.j1 kj7 l1 a2 t256 true a0_0 a0_1 a0_2 a0_3 0 a0_1 a0_2 0)) else (assessorlaw52_AttemptsBest.j1 kj7 l1 a2 t256 true a0_0 a0_1 a0_2 a0_3 0 a0_1 a0_2 0)) else (assessorlaw52_AttemptsBest.j1 kj7 l1 a2 t256 true a0_0 a0_1 a0_2 a0_3 0 a0_1 a0_2 0)) else (assessorlaw52_AttemptsBest.j1 kj7 l1 a2 t256 true a0_0 a0_1 a0_2 a0_3 0 a0_1 a0_2 0)))) = some r := by first | (rw [hy266]; with_reducible exact H) | (have H2_ := (Option.bind_some _ _).symm.trans H; rw [hy266]; with_reducible exact H2_) | (have H2_ := (Option.bind_some _ _).symm.trans H; with_reducible exact H2_) | with_reducible exact H | (rw [hy266]; exact H) | exact H
                        have Ny266 := Aside0.mk hy266
                        clear hy266
                        replace H := Option.bind_eq_some_iff.mp H
                        obtain ⟨⟨t267, t268⟩, A310, H⟩ := H
                        replace H : ((attempts_Final.f kj7 a0_0 a0_1 a0_2 a0_3 y266).bind fun bt269 => (if t257 = 0 then (if t259 = 0 then (if t268 = 0 then (if bt269.2 = 0 then (if t258 > t256 then (assessorlaw52_AttemptsBest.j1 kj7 l1 a2 t256 true a0_0 a0_1 a0_2 a0_3 0 a0_1 a0_2 0) else (if t256 = t267 then (if a0_0 = 1 then (assessorlaw52_AttemptsBest.j1 kj7 l1 a2 t256 false a0_0 a0_1 a0_2 a0_3 0 a0_1 a0_2 0) else (assessorlaw52_AttemptsBest.j1 kj7 l1 a2 t256 (t258 != bt269.1) a0_0 a0_1 a0_2 a0_3 0 a0_1 a0_2 0)) else (assessorlaw52_AttemptsBest.j1 kj7 l1 a2 t256 true a0_0 a0_1 a0_2 a0_3 0 a0_1 a0_2 0))) else (assessorlaw52_AttemptsBest.j1 kj7 l1 a2 t256 true a0_0 a0_1 a0_2 a0_3 0 a0_1 a0_2 0)) else (assessorlaw52_AttemptsBest.j1 kj7 l1 a2 t256 true a0_0 a0_1 a0_2 a0_3 0 a0_1 a0_2 0)) else (assessorlaw52_AttemptsBest.j1 kj7 l1 a2 t256 true a0_0 a0_1 a0_2 a0_3 0 a0_1 a0_2 0)) else (assessorlaw52_AttemptsBest.j1 kj7 l1 a2 t256 true a0_0 a0_1 a0_2 a0_3 0 a0_1 a0_2 0))) = some r := H
                        have A31 := Aside0.mk A310
                        clear A310
                        replace H := Option.bind_eq_some_iff.mp H
                        obtain ⟨⟨t269, t270⟩, A320, H⟩ := H
                        replace H : (if t257 = 0 then (if t259 = 0 then (if t268 = 0 then (if t270 = 0 then (if t258 > t256 then (assessorlaw52_AttemptsBest.j1 kj7 l1 a2 t256 true a0_0 a0_1 a0_2 a0_3 0 a0_1 a0_2 0) else (if t256 = t267 then (if a0_0 = 1 then (assessorlaw52_AttemptsBest.j1 kj7 l1 a2 t256 false a0_0 a0_1 a0_2 a0_3 0 a0_1 a0_2 0) else (assessorlaw52_AttemptsBest.j1 kj7 l1 a2 t256 (t258 != t269) a0_0 a0_1 a0_2 a0_3 0 a0_1 a0_2 0)) else (assessorlaw52_AttemptsBest.j1 kj7 l1 a2 t256 true a0_0 a0_1 a0_2 a0_3 0 a0_1 a0_2 0))) else (assessorlaw52_AttemptsBest.j1 kj7 l1 a2 t256 true a0_0 a0_1 a0_2 a0_3 0 a0_1 a0_2 0)) else (assessorlaw52_AttemptsBest.j1 kj7 l1 a2 t256 true a0_0 a0_1 a0_2 a0_3 0 a0_1 a0_2 0)) else (assessorlaw52_AttemptsBest.j1 kj7 l1 a2 t256 true a0_0 a0_1 a0_2 a0_3 0 a0_1 a0_2 0)) else (assessorlaw52_AttemptsBest.j1 kj7 l1 a2 t256 true a0_0 a0_1 a0_2 a0_3 0 a0_1 a0_2 0)) = some r := H
                        have A32 := Aside0.mk A320
                        clear A320
                        have HC33 := Aside0.mk H
                        clear H
                        have hcz34_0 : wc.cell? ⟨gb252, 0, none⟩ = some (.int .i64 a0_0) := (blk_cell BK252.out 0).trans rfl
                        have hcz34_1 : wc.cell? ⟨gb252, 1, none⟩ = some (.int .i64 a0_1) := (blk_cell BK252.out 1).trans rfl
                        have hcz34_2 : wc.cell? ⟨gb252, 2, none⟩ = some (.int .i64 a0_2) := (blk_cell BK252.out 2).trans rfl
                        have hcz34_3 : wc.cell? ⟨gb252, 3, none⟩ = some (.int .i64 a0_3) := (blk_cell BK252.out 3).trans rfl
                        have hfz34_0 := blk_frozen BK252.out 0
                        have hfz34_1 := blk_frozen BK252.out 1
                        have hfz34_2 := blk_frozen BK252.out 2
                        have hfz34_3 := blk_frozen BK252.out 3
                        try go_wp2_with (first | ((with_reducible refine gate_dst (N := 11) rfl ?_); (try (refine gate_guard (by rfl) ?_; dsimp only)); refine box_event ?hg (N := 11) ?hd (cs := #[.int .i64 0, .int .i64 0, .int .i64 0, .int .i64 0]) (t := 23) ?hr ?_; (case hd => rfl); (case hg => rfl); (case hr => first | (go_simp; done) | (go_simp; rfl)); intro gb255 hg w35 hbox hb; have n0_ := Aside0.mk (blk_below (g := gb252) (o := .cells #[.int .i64 a0_0, .int .i64 a0_1, .int .i64 a0_2, .int .i64 a0_3] 23 (0, 0)) (by (with_reducible repeat (first | refine blk_drewN ?_ _ | refine blk_drew ?_ | refine blk_alloc ?_ _)); exact BK252.out) hb); have n1_ := Aside0.mk (below_step (by repeat (first | (with_reducible first | exact HB.out | apply below_alloc | apply pw_below_drewN | apply below_drew1 | refine below_set ?_ GE252.out) | exact HB.out)) hb); have n2_ := Aside0.mk (hbox); have n3_ := Aside0.mk ((by rw [hg]; exact (below_size (by repeat (first | (with_reducible first | exact HB.out | apply below_alloc | apply pw_below_drewN | apply below_drew1 | refine below_set ?_ GE252.out) | exact HB.out))) : w.heap.size ≤ gb255)); have n4_ := Aside0.mk ((by rw [hg]; exact (below_size (by repeat (first | (with_reducible first | exact HB.out | apply below_alloc | apply pw_below_drewN | apply below_drew1 | refine below_set ?_ GE252.out) | exact HB.out))) : w.heap.size ≤ gb255)); have n5_ := Aside0.mk ((by rw [hg]; exact Nat.ne_of_lt (blk_lt (g := gb252) (o := .cells #[.int .i64 a0_0, .int .i64 a0_1, .int .i64 a0_2, .int .i64 a0_3] 23 (0, 0)) (by (with_reducible repeat (first | refine blk_drewN ?_ _ | refine blk_drew ?_ | refine blk_alloc ?_ _)); exact BK252.out)) : gb252 ≠ gb255)); have n6_ := Aside0.mk ((by rw [hg]; exact Nat.ne_of_gt (blk_lt (g := gb252) (o := .cells #[.int .i64 a0_0, .int .i64 a0_1, .int .i64 a0_2, .int .i64 a0_3] 23 (0, 0)) (by (with_reducible repeat (first | refine blk_drewN ?_ _ | refine blk_drew ?_ | refine blk_alloc ?_ _)); exact BK252.out)) : gb255 ≠ gb252)); clear BK252; clear HB; have BK252 := n0_; have HB := n1_; have BK255 := n2_; have GW255 := n3_; have GE255 := n4_; have NB252_255 := n5_; have NB255_252 := n6_; clear n0_ n1_ n2_ n3_ n4_ n5_ n6_; clear hb hbox hg; have hnb36 := NB255_252.out; have hnc36 := NB252_255.out; have hcz37_0 : w35.cell? ⟨gb255, 0, none⟩ = some (.int .i64 0) := (blk_cell BK255.out 0).trans rfl; have hcz37_1 : w35.cell? ⟨gb255, 1, none⟩ = some (.int .i64 0) := (blk_cell BK255.out 1).trans rfl; have hcz37_2 : w35.cell? ⟨gb255, 2, none⟩ = some (.int .i64 0) := (blk_cell BK255.out 2).trans rfl; have hcz37_3 : w35.cell? ⟨gb255, 3, none⟩ = some (.int .i64 0) := (blk_cell BK255.out 3).trans rfl; have hfz37_0 := blk_frozen BK255.out 0; have hfz37_1 := blk_frozen BK255.out 1; have hfz37_2 := blk_frozen BK255.out 2; have hfz37_3 := blk_frozen BK255.out 3) | ((with_reducible refine gate_callee (f := 11) rfl ?_); refine goesL_ (some 48) rfl rfl Try.func11 (by kernel_rfl) rfl #[.agg #[.int .i64 0, .int .i64 a0_1, .int .i64 a0_2, .int .i64 0], .slice A1 l1.length c1] rfl (by (try simp only [List.map_toArray, List.map_cons, List.map_nil]); first | done | rfl | (simp only [List.length_drop, List.length_take]; rfl)) ?_; (with_reducible refine (attempts_Final.calls kj7 0 a0_1 a0_2 0 _ _ l1 t256 t257 _ ?side1 ?side2 A17.out).mono ?_); (case side1 => exact Kd.C_below HR1.out (by repeat (first | (with_reducible first | exact HB.out | apply below_alloc | apply pw_below_drewN | apply below_drew1 | refine below_set ?_ GE252.out | refine below_set ?_ GE255.out) | exact HB.out))); (case side2 => exact HC1.out); rintro e w38 ⟨rfl, hb⟩; refine ⟨_, rfl, ?_⟩; have n0_ := Aside0.mk (blk_below (g := gb252) (o := .cells #[.int .i64 a0_0, .int .i64 a0_1, .int .i64 a0_2, .int .i64 a0_3] 23 (0, 0)) (by (with_reducible repeat (first | refine blk_drewN ?_ _ | refine blk_drew ?_ | refine blk_alloc ?_ _)); refine blk_far ?_ NB252_255.out _; (with_reducible repeat (first | refine blk_drewN ?_ _ | refine blk_drew ?_ | refine blk_alloc ?_ _)); refine blk_far ?_ NB252_255.out _; (with_reducible repeat (first | refine blk_drewN ?_ _ | refine blk_drew ?_ | refine blk_alloc ?_ _)); refine blk_far ?_ NB252_255.out _; (with_reducible repeat (first | refine blk_drewN ?_ _ | refine blk_drew ?_ | refine blk_alloc ?_ _)); refine blk_far ?_ NB252_255.out _; (with_reducible repeat (first | refine blk_drewN ?_ _ | refine blk_drew ?_ | refine blk_alloc ?_ _)); exact BK252.out) hb); have n1_ := Aside0.mk (blk_below (g := gb255) (o := .cells #[.int .i64 0, .int .i64 a0_1, .int .i64 a0_2, .int .i64 0] 23 (0, 0)) (by (with_reducible repeat (first | refine blk_drewN ?_ _ | refine blk_drew ?_ | refine blk_alloc ?_ _)); refine blk_put (cs := #[.int .i64 0, .int .i64 a0_1, .int .i64 a0_2, .int .i64 0]) ?_ 3 _ rfl; (with_reducible repeat (first | refine blk_drewN ?_ _ | refine blk_drew ?_ | refine blk_alloc ?_ _)); refine blk_put (cs := #[.int .i64 0, .int .i64 a0_1, .int .i64 0, .int .i64 0]) ?_ 2 _ rfl; (with_reducible repeat (first | refine blk_drewN ?_ _ | refine blk_drew ?_ | refine blk_alloc ?_ _)); refine blk_put (cs := #[.int .i64 0, .int .i64 0, .int .i64 0, .int .i64 0]) ?_ 1 _ rfl; (with_reducible repeat (first | refine blk_drewN ?_ _ | refine blk_drew ?_ | refine blk_alloc ?_ _)); refine blk_put (cs := #[.int .i64 0, .int .i64 0, .int .i64 0, .int .i64 0]) ?_ 0 _ rfl; (with_reducible repeat (first | refine blk_drewN ?_ _ | refine blk_drew ?_ | refine blk_alloc ?_ _)); exact BK255.out) hb); have n2_ := Aside0.mk (below_step (by repeat (first | (with_reducible first | exact HB.out | apply below_alloc | apply pw_below_drewN | apply below_drew1 | refine below_set ?_ GE252.out | refine below_set ?_ GE255.out) | exact HB.out)) hb); clear BK252; clear BK255; clear HB; have BK252 := n0_; have BK255 := n1_; have HB := n2_; clear n0_ n1_ n2_; (try clear hb); (try clear hb2); (try clear hk); (try clear hi); have hcz39_0 : w38.cell? ⟨gb252, 0, none⟩ = some (.int .i64 a0_0) := (blk_cell BK252.out 0).trans rfl; have hcz39_1 : w38.cell? ⟨gb252, 1, none⟩ = some (.int .i64 a0_1) := (blk_cell BK252.out 1).trans rfl; have hcz39_2 : w38.cell? ⟨gb252, 2, none⟩ = some (.int .i64 a0_2) := (blk_cell BK252.out 2).trans rfl; have hcz39_3 : w38.cell? ⟨gb252, 3, none⟩ = some (.int .i64 a0_3) := (blk_cell BK252.out 3).trans rfl; have hfz39_0 := blk_frozen BK252.out 0; have hfz39_1 := blk_frozen BK252.out 1; have hfz39_2 := blk_frozen BK252.out 2; have hfz39_3 := blk_frozen BK252.out 3) | ((with_reducible refine gate_callee (f := 11) rfl ?_); refine goesL_ (some 54) rfl rfl Try.func11 (by kernel_rfl) rfl #[.agg #[.int .i64 a0_0, .int .i64 a0_1, .int .i64 a0_2, .int .i64 a0_3], .slice A1 l1.length c1] rfl (by (try simp only [List.map_toArray, List.map_cons, List.map_nil]); first | done | rfl | (simp only [List.length_drop, List.length_take]; rfl)) ?_; (with_reducible refine (attempts_Final.calls kj7 a0_0 a0_1 a0_2 a0_3 _ _ l1 t258 t259 _ ?side1 ?side2 A18.out).mono ?_); (case side1 => repeat (first | exact (Kd.C_below HR1.out HB.out) | (with_reducible refine Kd.C_alloc ?_ _) | (with_reducible refine Kd.C_drewN ?_ _) | (with_reducible refine Kd.C_drew ?_))); (case side2 => exact HC1.out); rintro e w40 ⟨rfl, hb⟩; refine ⟨_, rfl, ?_⟩; have n0_ := Aside0.mk (blk_below (g := gb252) (o := .cells #[.int .i64 a0_0, .int .i64 a0_1, .int .i64 a0_2, .int .i64 a0_3] 23 (0, 0)) (by (with_reducible repeat (first | refine blk_drewN ?_ _ | refine blk_drew ?_ | refine blk_alloc ?_ _)); exact BK252.out) hb); have n1_ := Aside0.mk (blk_below (g := gb255) (o := .cells #[.int .i64 0, .int .i64 a0_1, .int .i64 a0_2, .int .i64 0] 23 (0, 0)) (by (with_reducible repeat (first | refine blk_drewN ?_ _ | refine blk_drew ?_ | refine blk_alloc ?_ _)); exact BK255.out) hb); have n2_ := Aside0.mk (below_step (by repeat (first | (with_reducible first | exact HB.out | apply below_alloc | apply pw_below_drewN | apply below_drew1 | refine below_set ?_ GE252.out | refine below_set ?_ GE255.out) | exact HB.out)) hb); clear BK252; clear BK255; clear HB; have BK252 := n0_; have BK255 := n1_; have HB := n2_; clear n0_ n1_ n2_; (try clear hb); (try clear hb2); (try clear hk); (try clear hi)) | ((with_reducible refine gate_callee (f := 19) rfl ?_); refine goesL_ (some 58) rfl rfl Try.func19 (by kernel_rfl) rfl #[.slice A1 l1.length c1] rfl (by (try simp only [List.map_toArray, List.map_cons, List.map_nil]); first | done | rfl | (simp only [List.length_drop, List.length_take]; rfl)) ?_; (with_reducible refine (api_Attempt.calls _ _ l1 t260 _ ?side1 ?side2 A19.out).mono ?_); (case side1 => repeat (first | exact (Kd.C_below HR1.out HB.out) | (with_reducible refine Kd.C_alloc ?_ _) | (with_reducible refine Kd.C_drewN ?_ _) | (with_reducible refine Kd.C_drew ?_))); (case side2 => exact HC1.out); rintro e w41 ⟨v261, rfl, ho0, hb⟩; refine ⟨_, rfl, ?_⟩; have n0_ := Aside0.mk (Kd.R_lower ho0 (below_size (by repeat (first | (with_reducible first | exact HB.out | apply below_alloc | apply pw_below_drewN | apply below_drew1 | refine below_set ?_ GE252.out | refine below_set ?_ GE255.out) | exact HB.out)))); have n1_ := Aside0.mk (blk_below (g := gb252) (o := .cells #[.int .i64 a0_0, .int .i64 a0_1, .int .i64 a0_2, .int .i64 a0_3] 23 (0, 0)) (by (with_reducible repeat (first | refine blk_drewN ?_ _ | refine blk_drew ?_ | refine blk_alloc ?_ _)); exact BK252.out) hb); have n2_ := Aside0.mk (blk_below (g := gb255) (o := .cells #[.int .i64 0, .int .i64 a0_1, .int .i64 a0_2, .int .i64 0] 23 (0, 0)) (by (with_reducible repeat (first | refine blk_drewN ?_ _ | refine blk_drew ?_ | refine blk_alloc ?_ _)); exact BK255.out) hb); have n3_ := Aside0.mk (below_step (by repeat (first | (with_reducible first | exact HB.out | apply below_alloc | apply pw_below_drewN | apply below_drew1 | refine below_set ?_ GE252.out | refine below_set ?_ GE255.out) | exact HB.out)) hb); clear BK252; clear BK255; clear HB; have HO262 := n0_; have BK252 := n1_; have BK255 := n2_; have HB := n3_; clear n0_ n1_ n2_ n3_; (try clear hb); (try clear hb2); (try clear hk); (try clear hi); (try clear ho0)))
                        have n0_ := Aside0.mk (Kd.R_drew HO262.out)
                        have n1_ := Aside0.mk (blk_drew BK252.out)
                        have n2_ := Aside0.mk (blk_drew BK255.out)
                        have n3_ := Aside0.mk (below_drew1 HB.out)
                        clear HO262
                        clear BK252
                        clear BK255
                        clear HB
                        have HO262 := n0_
                        have BK252 := n1_
                        have BK255 := n2_
                        have HB := n3_
                        clear n0_ n1_ n2_ n3_
                        refine start_ (n := 12) (S := fun w' => True) (ds := []) #[false, false, false, false, false, false, false, false, false, false, false, false] (by kernel_rfl) rfl rfl trivial (fun hHeld => ?_); refine with_tabW assessorlaw52_AttemptsBest.tab9 assessorlaw52_AttemptsBest.bits9 (fun HT_ HW_ => ?_)
                        generalize w41.drew = w42 at HO262 BK252 BK255 HB hHeld ⊢
                        refine pure_ (i := 0) (N := some 59) (v := ?_) (a' := ?_) #[true, false, false, false, false, false, false, false, false, false, false, false] rfl rfl (any_of HT_.out (by kernel_rfl)) (fun _ _ _ h => h) (Or.inl ⟨by rfl, ?_⟩) ?_ ?_
                        rotate_left
                        · intro w'
                          go_simp
                          with_reducible rfl
                        rotate_left
                        · simp only [Act.put, List.setIfInBounds_toArray, List.set_cons_zero, List.set_cons_succ, i64_w, i32_w]
                          rfl
                        refine pure_ (i := 1) (N := some 60) (v := ?_) (a' := ?_) #[true, true, false, false, false, false, false, false, false, false, false, false] rfl rfl (any_of HT_.out (by kernel_rfl)) (fun _ _ _ h => h) (Or.inl ⟨by rfl, ?_⟩) ?_ ?_
                        rotate_left
                        · intro w'
                          go_simp
                          with_reducible rfl
                        rotate_left
                        · simp only [Act.put, List.setIfInBounds_toArray, List.set_cons_zero, List.set_cons_succ, i64_w, i32_w]
                          rfl
                        refine pure_ (i := 2) (N := some 61) (v := ?_) (a' := ?_) #[true, true, true, false, false, false, false, false, false, false, false, false] rfl rfl (any_of HT_.out (by kernel_rfl)) (fun _ _ _ h => h) (Or.inl ⟨by rfl, ?_⟩) ?_ ?_
                        rotate_left
                        · intro w'
                          go_simp
                          with_reducible rfl
                        rotate_left
                        · simp only [Act.put, List.setIfInBounds_toArray, List.set_cons_zero, List.set_cons_succ, i64_w, i32_w]
                          rfl
                        refine pure_ (i := 3) (N := some 62) (v := ?_) (a' := ?_) #[true, true, true, true, false, false, false, false, false, false, false, false] rfl rfl (any_of HT_.out (by kernel_rfl)) (fun _ _ _ h => h) (Or.inl ⟨by rfl, ?_⟩) ?_ ?_
                        rotate_left
                        · intro w'
                          go_simp
                          with_reducible rfl
                        rotate_left
                        · simp only [Act.put, List.setIfInBounds_toArray, List.set_cons_zero, List.set_cons_succ, i64_w, i32_w]
                          rfl
                        refine pure_ (i := 4) (N := some 63) (v := ?_) (a' := ?_) #[true, true, true, true, true, false, false, false, false, false, false, false] rfl rfl (any_of HT_.out (by kernel_rfl)) (fun _ _ _ h => h) (Or.inl ⟨by rfl, ?_⟩) ?_ ?_
                        rotate_left
                        · intro w'
                          go_simp
                          with_reducible rfl
                        rotate_left
                        · simp only [Act.put, List.setIfInBounds_toArray, List.set_cons_zero, List.set_cons_succ, i64_w, i32_w]
                          rfl
                        refine pure_ (i := 5) (N := some 64) (v := ?_) (a' := ?_) #[true, true, true, true, true, true, false, false, false, false, false, false] rfl rfl (any_of HT_.out (by kernel_rfl)) (fun _ _ _ h => h) (Or.inl ⟨by rfl, ?_⟩) ?_ ?_
                        rotate_left
                        · intro w'
                          go_simp
                          with_reducible rfl
                        rotate_left
                        · simp only [Act.put, List.setIfInBounds_toArray, List.set_cons_zero, List.set_cons_succ, i64_w, i32_w]
                          rfl
                        refine pure_ (i := 6) (N := some 65) (v := ?_) (a' := ?_) #[true, true, true, true, true, true, true, false, false, false, false, false] rfl rfl (any_of HT_.out (by kernel_rfl)) (fun _ _ _ h => h) (Or.inl ⟨by rfl, ?_⟩) ?_ ?_
                        rotate_left
                        · intro w'
                          go_simp
                          with_reducible rfl
                        rotate_left
                        · simp only [Act.put, List.setIfInBounds_toArray, List.set_cons_zero, List.set_cons_succ, i64_w, i32_w]
                          rfl
                        refine pure_ (i := 7) (N := some 66) (v := ?_) (a' := ?_) #[true, true, true, true, true, true, true, true, false, false, false, false] rfl rfl (any_of HT_.out (by kernel_rfl)) (fun _ _ _ h => h) (Or.inl ⟨by rfl, ?_⟩) ?_ ?_
                        rotate_left
                        · intro w'
                          go_simp
                          with_reducible rfl
                        rotate_left
                        · simp only [Act.put, List.setIfInBounds_toArray, List.set_cons_zero, List.set_cons_succ, i64_w, i32_w]
                          rfl
                        refine pure_ (i := 8) (N := some 67) (v := ?_) (a' := ?_) #[true, true, true, true, true, true, true, true, true, false, false, false] rfl rfl (any_of HT_.out (by kernel_rfl)) (fun _ _ _ h => h) (Or.inl ⟨by rfl, ?_⟩) ?_ ?_
                        rotate_left
                        · intro w'
                          go_simp
                          with_reducible rfl
                        rotate_left
                        · simp only [Act.put, List.setIfInBounds_toArray, List.set_cons_zero, List.set_cons_succ, i64_w, i32_w]
                          rfl
                        refine pure_ (i := 9) (N := some 68) (v := ?_) (a' := ?_) #[true, true, true, true, true, true, true, true, true, true, false, false] rfl rfl (any_of HT_.out (by kernel_rfl)) (fun _ _ _ h => h) (Or.inl ⟨by rfl, ?_⟩) ?_ ?_
                        rotate_left
                        · intro w'
                          go_simp
                          with_reducible rfl
                        rotate_left
                        · simp only [Act.put, List.setIfInBounds_toArray, List.set_cons_zero, List.set_cons_succ, i64_w, i32_w]
                          rfl
                        refine pure_ (i := 10) (N := some 17) (v := ?_) (a' := ?_) #[true, true, true, true, true, true, true, true, true, true, true, false] rfl rfl (any_of HT_.out (by kernel_rfl)) (fun _ _ _ h => h) (Or.inl ⟨by rfl, ?_⟩) ?_ ?_
                        rotate_left
                        · intro w'
                          go_simp
                          with_reducible rfl
                        rotate_left
                        · simp only [Act.put, List.setIfInBounds_toArray, List.set_cons_zero, List.set_cons_succ, i64_w, i32_w]
                          rfl
                        refine pure_ (i := 11) (N := some 18) (v := ?_) (a' := ?_) #[true, true, true, true, true, true, true, true, true, true, true, true] rfl rfl (any_of HT_.out (by kernel_rfl)) (fun _ _ _ h => h) (Or.inl ⟨by rfl, ?_⟩) ?_ ?_
                        rotate_left
                        · intro w'
                          go_simp
                          with_reducible rfl
                        rotate_left
                        · simp only [Act.put, List.setIfInBounds_toArray, List.set_cons_zero, List.set_cons_succ, i64_w, i32_w]
                          rfl
                        refine done_ (done_of HT_.out (by kernel_rfl)) ?_
                        try go_wp2
                        have n0_ := Aside0.mk (Kd.R_drew HO262.out)
                        have n1_ := Aside0.mk (blk_drew BK252.out)
                        have n2_ := Aside0.mk (blk_drew BK255.out)
                        have n3_ := Aside0.mk (below_drew1 HB.out)
                        clear HO262
                        clear BK252
                        clear BK255
                        clear HB
                        have HO262 := n0_
                        have BK252 := n1_
                        have BK255 := n2_
                        have HB := n3_
                        clear n0_ n1_ n2_ n3_
                        have p263 : 0 ≤ ((ji21) : Int) := of_decide_eq_true (by first | (with_reducible assumption) | assumption)
                        have q263 : (ji21) < (l1.length : Int) := of_decide_eq_true (by first | (with_reducible assumption) | assumption)
                        obtain ⟨ad263, e263, hx263_0, hx263_1, hx263_2⟩ := at_T38 HR1.out (ji21) p263 q263
                        have hw263_2 := hx263_2
                        have hw263_1 := hx263_1
                        have hw263_0 := hx263_0
                        cases e263
                        replace hx263_0 := (HB.out.cell (World.block_lt_of_cell? w _ hx263_0)).trans hx263_0
                        replace hx263_1 := (HB.out.cell (World.block_lt_of_cell? w _ hx263_1)).trans hx263_1
                        replace hx263_2 := (HB.out.cell (World.block_lt_of_cell? w _ hx263_2)).trans hx263_2
                        replace p263 := eq_true p263
                        replace q263 := eq_true q263
                        have p264 : 0 ≤ ((ji24) : Int) := of_decide_eq_true (by first | (with_reducible assumption) | assumption)
                        have q264 : (ji24) < (l1.length : Int) := of_decide_eq_true (by first | (with_reducible assumption) | assumption)
                        obtain ⟨ad264, e264, hx264_0, hx264_1, hx264_2⟩ := at_T38 HR1.out (ji24) p264 q264
                        have hw264_2 := hx264_2
                        have hw264_1 := hx264_1
                        have hw264_0 := hx264_0
                        obtain rfl : ad263 = ad264 := (by injection e264)
                        replace hx264_0 := (HB.out.cell (World.block_lt_of_cell? w _ hx264_0)).trans hx264_0
                        replace hx264_1 := (HB.out.cell (World.block_lt_of_cell? w _ hx264_1)).trans hx264_1
                        replace hx264_2 := (HB.out.cell (World.block_lt_of_cell? w _ hx264_2)).trans hx264_2
                        replace p264 := eq_true p264
                        replace q264 := eq_true q264
                        have p28 : 0 ≤ ((ji24) : Int) := of_decide_eq_true (by first | (with_reducible assumption) | assumption)
                        have q28 : ((ji24) : Int) < ((t260.length : Int) : Int) := of_decide_eq_true (by first | (with_reducible assumption) | assumption)
                        obtain ⟨go28, co28, eo28, gb28, gl28, cl28, HG28⟩ := Kd.R_form HO262.out (by omega)
                        (first | cases eo28 | (injection eo28 with ea_ en_ ec_; (first | subst ea_ | (injection ea_ with ea_; subst ea_)); subst ec_; clear en_))
                        have GB28 := Aside0.mk gb28
                        have GG28 := Aside0.mk HG28
                        clear gb28 gl28 HG28
                        obtain ⟨ce28, hcl28, hM28, hcc28, hfr28⟩ := Kd.R_elem HO262.out z38 ((ji24) : Int) p28 q28
                        obtain rfl := k38_openM hM28
                        have hx28_0 : World.cell? _ ⟨go28, ((ji24) : Int).toNat * 3, none⟩ = some (.int .i64 ((rd_T38 t260 (ji24)).f0)) := hcc28 0 _ rfl
                        have hx28_1 : World.cell? _ ⟨go28, ((ji24) : Int).toNat * 3 + 1, none⟩ = some (.int .i64 ((rd_T38 t260 (ji24)).f1)) := hcc28 1 _ rfl
                        have hx28_2 : World.cell? _ ⟨go28, ((ji24) : Int).toNat * 3 + 2, none⟩ = some (.int .i64 ((rd_T38 t260 (ji24)).f2)) := hcc28 2 _ rfl
                        have hf28_0 : World.frozen? _ ⟨go28, ((ji24) : Int).toNat * 3, none⟩ = false := hfr28 0
                        have hf28_1 : World.frozen? _ ⟨go28, ((ji24) : Int).toNat * 3 + 1, none⟩ = false := hfr28 1
                        have hf28_2 : World.frozen? _ ⟨go28, ((ji24) : Int).toNat * 3 + 2, none⟩ = false := hfr28 2
                        clear hcl28 hcc28 hfr28 hM28
                        replace p28 := eq_true p28
                        replace q28 := eq_true q28
                        obtain ⟨ce44, hcl44, hM44, hcc44, hfr44⟩ := Kd.R_elem HO262.out z38 ((ji24) : Int) (of_decide_eq_true (by first | (with_reducible assumption) | assumption)) (by have h_ : ((ji24) : Int) < ((t260.length : Int) : Int) := of_decide_eq_true (by first | (with_reducible assumption) | assumption); first | exact h_ | (have e_ := (Kd.R_reads' HO262.out).1; omega) | simpa using h_)
                        obtain rfl := k38_openM hM44
                        have HP44 := (Kd.R_seg HO262.out ((ji24) : Int) (of_decide_eq_true (by first | (with_reducible assumption) | assumption)) (by have h_ : ((ji24) : Int) < ((t260.length : Int) : Int) := of_decide_eq_true (by first | (with_reducible assumption) | assumption); first | exact h_ | (have e_ := (Kd.R_reads' HO262.out).1; omega) | simpa using h_) (seg := [.int .i64 ((rd_T38 l1 (ji21)).f2)]) (j := 2) hcl44 hcc44 (show 3 ≤ 3 from by decide) (x' := (⟨(rd_T38 t260 (ji24)).f0, (rd_T38 t260 (ji24)).f1, (rd_T38 l1 (ji21)).f2⟩ : S38)) (k38_mkM _ _ _ (⟨(rd_T38 t260 (ji24)).f0, (rd_T38 t260 (ji24)).f1, (rd_T38 l1 (ji21)).f2⟩ : S38) ) (fun _ hk => hk)).1
                        rw [← Ny265.out] at HP44
                        have HQ44 := Aside0.mk HP44
                        clear hcl44 hcc44 hfr44 hM44 HP44
                        have p30 : 0 ≤ ((ji21) : Int) := of_decide_eq_true (by first | (with_reducible assumption) | assumption)
                        have q30 : ((ji21) : Int) < ((t260.length : Int) : Int) := of_decide_eq_true (by first | (with_reducible assumption) | assumption)
                        obtain ⟨ce30, hcl30, hM30, hcc30, hfr30⟩ := Kd.R_elem HQ44.out z38 ((ji21) : Int) p30 q30
                        obtain rfl := k38_openM hM30
                        have hx30_0 : World.cell? _ ⟨go28, ((ji21) : Int).toNat * 3, none⟩ = some (.int .i64 ((rd_T38 y265 (ji21)).f0)) := hcc30 0 _ rfl
                        have hx30_1 : World.cell? _ ⟨go28, ((ji21) : Int).toNat * 3 + 1, none⟩ = some (.int .i64 ((rd_T38 y265 (ji21)).f1)) := hcc30 1 _ rfl
                        have hx30_2 : World.cell? _ ⟨go28, ((ji21) : Int).toNat * 3 + 2, none⟩ = some (.int .i64 ((rd_T38 y265 (ji21)).f2)) := hcc30 2 _ rfl
                        have hf30_0 : World.frozen? _ ⟨go28, ((ji21) : Int).toNat * 3, none⟩ = false := hfr30 0
                        have hf30_1 : World.frozen? _ ⟨go28, ((ji21) : Int).toNat * 3 + 1, none⟩ = false := hfr30 1
                        have hf30_2 : World.frozen? _ ⟨go28, ((ji21) : Int).toNat * 3 + 2, none⟩ = false := hfr30 2
                        clear hcl30 hcc30 hfr30 hM30
                        replace p30 := eq_true p30
                        replace q30 := eq_true q30
                        obtain ⟨ce45, hcl45, hM45, hcc45, hfr45⟩ := Kd.R_elem HQ44.out z38 ((ji21) : Int) (of_decide_eq_true (by first | (with_reducible assumption) | assumption)) (by have h_ : ((ji21) : Int) < ((t260.length : Int) : Int) := of_decide_eq_true (by first | (with_reducible assumption) | assumption); first | exact h_ | (have e_ := (Kd.R_reads' HO262.out).1; omega) | simpa using h_)
                        obtain rfl := k38_openM hM45
                        have HP45 := (Kd.R_seg HQ44.out ((ji21) : Int) (of_decide_eq_true (by first | (with_reducible assumption) | assumption)) (by have h_ : ((ji21) : Int) < ((t260.length : Int) : Int) := of_decide_eq_true (by first | (with_reducible assumption) | assumption); first | exact h_ | (have e_ := (Kd.R_reads' HO262.out).1; omega) | simpa using h_) (seg := [.int .i64 ((rd_T38 l1 (ji24)).f2)]) (j := 2) hcl45 hcc45 (show 3 ≤ 3 from by decide) (x' := (⟨(rd_T38 y265 (ji21)).f0, (rd_T38 y265 (ji21)).f1, (rd_T38 l1 (ji24)).f2⟩ : S38)) (k38_mkM _ _ _ (⟨(rd_T38 y265 (ji21)).f0, (rd_T38 y265 (ji21)).f1, (rd_T38 l1 (ji24)).f2⟩ : S38) ) (fun _ hk => hk)).1
                        rw [← Ny266.out] at HP45
                        have HQ45 := Aside0.mk HP45
                        clear hcl45 hcc45 hfr45 hM45 HP45
                        refine start_ (n := 20) (S := fun w' => w'.cell? (ad263.add (((ji21)).toNat * 3)) = some (.int .i64 ((rd_T38 l1 (ji21)).f0)) ∧ w'.cell? ⟨(ad263.add (((ji21)).toNat * 3)).block, (ad263.add (((ji21)).toNat * 3)).off + 1, none⟩ = some (.int .i64 ((rd_T38 l1 (ji21)).f1)) ∧ w'.cell? ⟨(ad263.add (((ji21)).toNat * 3)).block, (ad263.add (((ji21)).toNat * 3)).off + 2, none⟩ = some (.int .i64 ((rd_T38 l1 (ji21)).f2)) ∧ w'.cell? (ad263.add (((ji24)).toNat * 3)) = some (.int .i64 ((rd_T38 l1 (ji24)).f0)) ∧ w'.cell? ⟨(ad263.add (((ji24)).toNat * 3)).block, (ad263.add (((ji24)).toNat * 3)).off + 1, none⟩ = some (.int .i64 ((rd_T38 l1 (ji24)).f1)) ∧ w'.cell? ⟨(ad263.add (((ji24)).toNat * 3)).block, (ad263.add (((ji24)).toNat * 3)).off + 2, none⟩ = some (.int .i64 ((rd_T38 l1 (ji24)).f2))) (ds := [16, 19]) #[false, false, false, false, false, false, false, false, false, false, false, false, false, false, false, false, false, false, false, false] (by kernel_rfl) rfl rfl ⟨((HB.out.cell (World.block_lt_of_cell? w _ hw263_0)).trans hw263_0), ((HB.out.cell (World.block_lt_of_cell? w _ hw263_1)).trans hw263_1), ((HB.out.cell (World.block_lt_of_cell? w _ hw263_2)).trans hw263_2), ((HB.out.cell (World.block_lt_of_cell? w _ hw264_0)).trans hw264_0), ((HB.out.cell (World.block_lt_of_cell? w _ hw264_1)).trans hw264_1), ((HB.out.cell (World.block_lt_of_cell? w _ hw264_2)).trans hw264_2)⟩ (fun hHeld => ?_); refine with_tabW assessorlaw52_AttemptsBest.tab10 assessorlaw52_AttemptsBest.bits10 (fun HT_ HW_ => ?_)
                        generalize w42.drew = w43 at HO262 BK252 BK255 HB GG28 HQ44 HQ45 hf28_0 hf28_1 hf28_2 hf30_0 hf30_1 hf30_2 hx263_0 hx263_1 hx263_2 hx264_0 hx264_1 hx264_2 hx28_0 hx28_1 hx28_2 hx30_0 hx30_1 hx30_2 hHeld ⊢
                        have hy30_2 : (w43.setCell ⟨go28, ((ji24) : Int).toNat * 3 + 2, none⟩ (.int .i64 ((rd_T38 l1 (ji21)).f2))).cell? ⟨go28, ((ji21) : Int).toNat * 3 + 2, none⟩ = some (.int .i64 ((rd_T38 y265 (ji21)).f2)) := hx30_2
                        have gy30_2 : (w43.setCell ⟨go28, ((ji24) : Int).toNat * 3 + 2, none⟩ (.int .i64 ((rd_T38 l1 (ji21)).f2))).frozen? ⟨go28, ((ji21) : Int).toNat * 3 + 2, none⟩ = false := hf30_2
                        refine pure_ (i := 0) (N := some 69) (v := ?_) (a' := ?_) #[true, false, false, false, false, false, false, false, false, false, false, false, false, false, false, false, false, false, false, false] rfl rfl (any_of HT_.out (by kernel_rfl)) (fun _ _ _ h => h) (Or.inl ⟨by rfl, ?_⟩) ?_ ?_
                        rotate_left
                        · intro w'
                          go_simp
                          with_reducible rfl
                        rotate_left
                        · simp only [Act.put, List.setIfInBounds_toArray, List.set_cons_zero, List.set_cons_succ, i64_w, i32_w]
                          rfl
                        refine pure_ (i := 1) (N := some 70) (v := ?_) (a' := ?_) #[true, true, false, false, false, false, false, false, false, false, false, false, false, false, false, false, false, false, false, false] rfl rfl (any_of HT_.out (by kernel_rfl)) (fun _ _ _ h => h) (Or.inl ⟨by rfl, ?_⟩) ?_ ?_
                        rotate_left
                        · intro w'
                          go_simp
                          with_reducible rfl
                        rotate_left
                        · simp only [Act.put, List.setIfInBounds_toArray, List.set_cons_zero, List.set_cons_succ, i64_w, i32_w]
                          rfl
                        refine pure_ (i := 2) (N := some 71) (v := ?_) (a' := ?_) #[true, true, true, false, false, false, false, false, false, false, false, false, false, false, false, false, false, false, false, false] rfl rfl (any_of HT_.out (by kernel_rfl)) (fun _ _ _ h => h) (Or.inl ⟨by rfl, ?_⟩) ?_ ?_
                        rotate_left
                        · intro w'
                          go_simp
                          with_reducible rfl
                        rotate_left
                        · simp only [Act.put, List.setIfInBounds_toArray, List.set_cons_zero, List.set_cons_succ, i64_w, i32_w]
                          rfl
                        refine pure_ (i := 3) (N := some 72) (v := ?_) (a' := ?_) #[true, true, true, true, false, false, false, false, false, false, false, false, false, false, false, false, false, false, false, false] rfl rfl (any_of HT_.out (by kernel_rfl)) (fun _ _ _ h => h) (Or.inl ⟨by rfl, ?_⟩) ?_ ?_
                        rotate_left
                        · intro w'
                          go_simp
                          with_reducible rfl
                        rotate_left
                        · simp only [Act.put, List.setIfInBounds_toArray, List.set_cons_zero, List.set_cons_succ, i64_w, i32_w]
                          rfl
                        refine pure_ (i := 4) (N := some 73) (v := ?_) (a' := ?_) #[true, true, true, true, true, false, false, false, false, false, false, false, false, false, false, false, false, false, false, false] rfl rfl (any_of HT_.out (by kernel_rfl)) (fun _ _ _ h => h) (Or.inl ⟨by rfl, ?_⟩) ?_ ?_
                        rotate_left
                        · intro w'
                          go_simp
                          with_reducible rfl
                        rotate_left
                        · simp only [Act.put, List.setIfInBounds_toArray, List.set_cons_zero, List.set_cons_succ, i64_w, i32_w]
                          rfl
                        refine pure_ (i := 5) (N := some 74) (v := ?_) (a' := ?_) #[true, true, true, true, true, true, false, false, false, false, false, false, false, false, false, false, false, false, false, false] rfl rfl (any_of HT_.out (by kernel_rfl)) (fun _ _ _ h => h) (Or.inl ⟨by rfl, ?_⟩) ?_ ?_
                        rotate_left
                        · intro w'
                          go_simp
                          with_reducible rfl
                        rotate_left
                        · simp only [Act.put, List.setIfInBounds_toArray, List.set_cons_zero, List.set_cons_succ, i64_w, i32_w]
                          rfl
                        refine pure_ (i := 6) (N := some 75) (v := ?_) (a' := ?_) #[true, true, true, true, true, true, true, false, false, false, false, false, false, false, false, false, false, false, false, false] rfl rfl (any_of HT_.out (by kernel_rfl)) (fun _ _ _ h => h) (Or.inl ⟨by rfl, ?_⟩) ?_ ?_
                        rotate_left
                        · intro w'
                          go_simp
                          with_reducible rfl
                        rotate_left
                        · simp only [Act.put, List.setIfInBounds_toArray, List.set_cons_zero, List.set_cons_succ, i64_w, i32_w]
                          rfl
                        refine pure_ (i := 7) (N := some 76) (v := ?_) (a' := ?_) #[true, true, true, true, true, true, true, true, false, false, false, false, false, false, false, false, false, false, false, false] rfl rfl (any_of HT_.out (by kernel_rfl)) (fun _ _ _ h => h) (Or.inl ⟨by rfl, ?_⟩) ?_ ?_
                        rotate_left
                        · intro w'
                          go_simp
                          with_reducible rfl
                        rotate_left
                        · simp only [Act.put, List.setIfInBounds_toArray, List.set_cons_zero, List.set_cons_succ, i64_w, i32_w]
                          rfl
                        refine pure_ (i := 9) (N := some 78) (v := ?_) (a' := ?_) #[true, true, true, true, true, true, true, true, false, true, false, false, false, false, false, false, false, false, false, false] rfl rfl (any_of HT_.out (by kernel_rfl)) (fun _ _ _ h => h) (Or.inl ⟨by rfl, ?_⟩) ?_ ?_
                        rotate_left
                        · intro w'
                          go_simp
                          with_reducible rfl
                        rotate_left
                        · simp only [Act.put, List.setIfInBounds_toArray, List.set_cons_zero, List.set_cons_succ, i64_w, i32_w]
                          rfl
                        refine pure_ (i := 10) (N := some 79) (v := ?_) (a' := ?_) #[true, true, true, true, true, true, true, true, false, true, true, false, false, false, false, false, false, false, false, false] rfl rfl (any_of HT_.out (by kernel_rfl)) (fun _ _ _ h => h) (Or.inl ⟨by rfl, ?_⟩) ?_ ?_
                        rotate_left
                        · intro w'
                          go_simp
                          with_reducible rfl
                        rotate_left
                        · simp only [Act.put, List.setIfInBounds_toArray, List.set_cons_zero, List.set_cons_succ, i64_w, i32_w]
                          rfl
                        refine pure_ (i := 11) (N := some 80) (v := ?_) (a' := ?_) #[true, true, true, true, true, true, true, true, false, true, true, true, false, false, false, false, false, false, false, false] rfl rfl (any_of HT_.out (by kernel_rfl)) (fun _ _ _ h => h) (Or.inl ⟨by rfl, ?_⟩) ?_ ?_
                        rotate_left
                        · intro w'
                          go_simp
                          with_reducible rfl
                        rotate_left
                        · simp only [Act.put, List.setIfInBounds_toArray, List.set_cons_zero, List.set_cons_succ, i64_w, i32_w]
                          rfl
                        refine pure_ (i := 12) (N := some 81) (v := ?_) (a' := ?_) #[true, true, true, true, true, true, true, true, false, true, true, true, true, false, false, false, false, false, false, false] rfl rfl (any_of HT_.out (by kernel_rfl)) (fun _ _ _ h => h) (Or.inl ⟨by rfl, ?_⟩) ?_ ?_
                        rotate_left
                        · intro w'
                          go_simp
                          with_reducible rfl
                        rotate_left
                        · simp only [Act.put, List.setIfInBounds_toArray, List.set_cons_zero, List.set_cons_succ, i64_w, i32_w]
                          rfl
                        refine take_ (i := 8) (N := some 77) (v := ?_) (a' := ?_) #[true, true, true, true, true, true, true, true, true, true, true, true, true, false, false, false, false, false, false, false] rfl rfl (take_ofW HT_.out HW_.out (by kernel_rfl)) (fun _ _ _ h => h) (Or.inl ⟨by rfl, ?_⟩) hHeld ?_ ?_
                        rotate_left
                        · rintro w' ⟨s0, s1, s2, s3, s4, s5⟩
                          go_simp
                          with_reducible rfl
                        rotate_left
                        · simp only [Act.put, List.setIfInBounds_toArray, List.set_cons_zero, List.set_cons_succ, i64_w, i32_w]
                          rfl
                        refine take_ (i := 13) (N := some 82) (v := ?_) (a' := ?_) #[true, true, true, true, true, true, true, true, true, true, true, true, true, true, false, false, false, false, false, false] rfl rfl (take_ofW HT_.out HW_.out (by kernel_rfl)) (fun _ _ _ h => h) (Or.inl ⟨by rfl, ?_⟩) hHeld ?_ ?_
                        rotate_left
                        · rintro w' ⟨s0, s1, s2, s3, s4, s5⟩
                          go_simp
                          with_reducible rfl
                        rotate_left
                        · simp only [Act.put, List.setIfInBounds_toArray, List.set_cons_zero, List.set_cons_succ, i64_w, i32_w]
                          rfl
                        refine pure_ (i := 14) (N := some 83) (v := ?_) (a' := ?_) #[true, true, true, true, true, true, true, true, true, true, true, true, true, true, true, false, false, false, false, false] rfl rfl (any_of HT_.out (by kernel_rfl)) (fun _ _ _ h => h) (Or.inl ⟨by rfl, ?_⟩) ?_ ?_
                        rotate_left
                        · intro w'
                          go_simp
                          with_reducible rfl
                        rotate_left
                        · simp only [Act.put, List.setIfInBounds_toArray, List.set_cons_zero, List.set_cons_succ, i64_w, i32_w]
                          rfl
                        refine pure_ (i := 15) (N := some 84) (v := ?_) (a' := ?_) #[true, true, true, true, true, true, true, true, true, true, true, true, true, true, true, true, false, false, false, false] rfl rfl (any_of HT_.out (by kernel_rfl)) (fun _ _ _ h => h) (Or.inl ⟨by rfl, ?_⟩) ?_ ?_
                        rotate_left
                        · intro w'
                          go_simp
                          with_reducible rfl
                        rotate_left
                        · simp only [Act.put, List.setIfInBounds_toArray, List.set_cons_zero, List.set_cons_succ, i64_w, i32_w]
                          rfl
                        refine last_ (i := 16) (N := none) #[true, true, true, true, true, true, true, true, true, true, true, true, true, true, true, true, true, false, false, false] rfl rfl (one_of HT_.out (by kernel_rfl)) (by decide) (fun K hK => ?_)
                        refine skip_ (w1 := ?_) (by rfl) rfl ?_ ?_
                        rotate_left
                        · go_simp
                          rfl
                        refine hK.out _ _ ?_
                        clear hK K
                        refine pure_ (i := 17) (N := some 85) (v := ?_) (a' := ?_) #[true, true, true, true, true, true, true, true, true, true, true, true, true, true, true, true, true, true, false, false] rfl rfl (any_of HT_.out (by kernel_rfl)) (fun _ _ _ h => h) (Or.inl ⟨by rfl, ?_⟩) ?_ ?_
                        rotate_left
                        · intro w'
                          go_simp
                          with_reducible rfl
                        rotate_left
                        · simp only [Act.put, List.setIfInBounds_toArray, List.set_cons_zero, List.set_cons_succ, i64_w, i32_w]
                          rfl
                        refine pure_ (i := 18) (N := some 86) (v := ?_) (a' := ?_) #[true, true, true, true, true, true, true, true, true, true, true, true, true, true, true, true, true, true, true, false] rfl rfl (any_of HT_.out (by kernel_rfl)) (fun _ _ _ h => h) (Or.inl ⟨by rfl, ?_⟩) ?_ ?_
                        rotate_left
                        · intro w'
                          go_simp
                          with_reducible rfl
                        rotate_left
                        · simp only [Act.put, List.setIfInBounds_toArray, List.set_cons_zero, List.set_cons_succ, i64_w, i32_w]
                          rfl
                        refine last_ (i := 19) (N := none) #[true, true, true, true, true, true, true, true, true, true, true, true, true, true, true, true, true, true, true, true] rfl rfl (one_of HT_.out (by kernel_rfl)) (by decide) (fun K hK => ?_)
                        refine skip_ (w1 := ?_) (by rfl) rfl ?_ ?_
                        rotate_left
                        · go_simp
                          rfl
                        refine hK.out _ _ ?_
                        clear hK K
                        refine done_ (done_of HT_.out (by kernel_rfl)) ?_
                        have hcz46_0 : w43.cell? ⟨gb255, 0, none⟩ = some (.int .i64 0) := (blk_cell BK255.out 0).trans rfl
                        have hcz46_1 : w43.cell? ⟨gb255, 1, none⟩ = some (.int .i64 a0_1) := (blk_cell BK255.out 1).trans rfl
                        have hcz46_2 : w43.cell? ⟨gb255, 2, none⟩ = some (.int .i64 a0_2) := (blk_cell BK255.out 2).trans rfl
                        have hcz46_3 : w43.cell? ⟨gb255, 3, none⟩ = some (.int .i64 0) := (blk_cell BK255.out 3).trans rfl
                        have hcy_0 : ((w43.setCell ⟨go28, ((ji24) : Int).toNat * 3 + 2, none⟩ (.int .i64 ((rd_T38 l1 (ji21)).f2))).setCell ⟨go28, ((ji21) : Int).toNat * 3 + 2, none⟩ (.int .i64 ((rd_T38 l1 (ji24)).f2))).cell? ⟨gb255, 0, none⟩ = some (.int .i64 0) := (blk_cell (blk_far (blk_far BK255.out (by have h_ := Kd.R_ne HO262.out BK255.out (by decide); intro e_; exact h_ (by rw [e_]; rfl)) _) (by have h_ := Kd.R_ne HO262.out BK255.out (by decide); intro e_; exact h_ (by rw [e_]; rfl)) _) 0).trans rfl
                        have hcy_1 : ((w43.setCell ⟨go28, ((ji24) : Int).toNat * 3 + 2, none⟩ (.int .i64 ((rd_T38 l1 (ji21)).f2))).setCell ⟨go28, ((ji21) : Int).toNat * 3 + 2, none⟩ (.int .i64 ((rd_T38 l1 (ji24)).f2))).cell? ⟨gb255, 1, none⟩ = some (.int .i64 a0_1) := (blk_cell (blk_far (blk_far BK255.out (by have h_ := Kd.R_ne HO262.out BK255.out (by decide); intro e_; exact h_ (by rw [e_]; rfl)) _) (by have h_ := Kd.R_ne HO262.out BK255.out (by decide); intro e_; exact h_ (by rw [e_]; rfl)) _) 1).trans rfl
                        have hcy_2 : ((w43.setCell ⟨go28, ((ji24) : Int).toNat * 3 + 2, none⟩ (.int .i64 ((rd_T38 l1 (ji21)).f2))).setCell ⟨go28, ((ji21) : Int).toNat * 3 + 2, none⟩ (.int .i64 ((rd_T38 l1 (ji24)).f2))).cell? ⟨gb255, 2, none⟩ = some (.int .i64 a0_2) := (blk_cell (blk_far (blk_far BK255.out (by have h_ := Kd.R_ne HO262.out BK255.out (by decide); intro e_; exact h_ (by rw [e_]; rfl)) _) (by have h_ := Kd.R_ne HO262.out BK255.out (by decide); intro e_; exact h_ (by rw [e_]; rfl)) _) 2).trans rfl
                        have hcy_3 : ((w43.setCell ⟨go28, ((ji24) : Int).toNat * 3 + 2, none⟩ (.int .i64 ((rd_T38 l1 (ji21)).f2))).setCell ⟨go28, ((ji21) : Int).toNat * 3 + 2, none⟩ (.int .i64 ((rd_T38 l1 (ji24)).f2))).cell? ⟨gb255, 3, none⟩ = some (.int .i64 0) := (blk_cell (blk_far (blk_far BK255.out (by have h_ := Kd.R_ne HO262.out BK255.out (by decide); intro e_; exact h_ (by rw [e_]; rfl)) _) (by have h_ := Kd.R_ne HO262.out BK255.out (by decide); intro e_; exact h_ (by rw [e_]; rfl)) _) 3).trans rfl
                        have hfz46_0 := blk_frozen BK255.out 0
                        have hfz46_1 := blk_frozen BK255.out 1
                        have hfz46_2 := blk_frozen BK255.out 2
                        have hfz46_3 := blk_frozen BK255.out 3
                        go_upto_region 13 with (first | ((with_reducible refine gate_callee (f := 11) rfl ?_); refine goesL_ (some 90) rfl rfl Try.func11 (by kernel_rfl) rfl #[.agg #[.int .i64 0, .int .i64 a0_1, .int .i64 a0_2, .int .i64 0], .slice (some ⟨go28, 0, none⟩) y266.length co28] rfl (by (try simp only [List.map_toArray, List.map_cons, List.map_nil]); first | done | (rw [show y266.length = t260.length from (Kd.R_reads' HQ45.out).1.symm] <;> rfl) | rfl | (simp only [List.length_drop, List.length_take]; rfl)) ?_; (with_reducible refine (attempts_Final.calls kj7 0 a0_1 a0_2 0 _ _ y266 t267 t268 _ ?side1 ?side2 A31.out).mono ?_); (case side1 => refine (Kd.R_reads' (e := 38) (base := w.heap.size) (ok := fun k_ => True) (n := t260.length) (c := co28) ?_).2.2; exact (by (with_reducible repeat (first | apply Kd.R_alloc | apply Kd.R_drewN | apply Kd.R_drew)); exact HQ45.out)); (case side2 => rw [show y266.length = t260.length from (Kd.R_reads' HQ45.out).1.symm]; exact (Kd.R_reads' HO262.out).2.1); rintro e w47 ⟨rfl, hb⟩; refine ⟨_, rfl, ?_⟩; have n0_ := Aside0.mk (Kd.R_below (by (with_reducible repeat (first | apply Kd.R_alloc | apply Kd.R_drewN | apply Kd.R_drew)); exact HQ45.out) hb); have n1_ := Aside0.mk (blk_below (g := gb252) (o := .cells #[.int .i64 a0_0, .int .i64 a0_1, .int .i64 a0_2, .int .i64 a0_3] 23 (0, 0)) (by (with_reducible repeat (first | refine blk_drewN ?_ _ | refine blk_drew ?_ | refine blk_alloc ?_ _)); refine blk_far ?_ (by have h_ := Kd.R_ne HO262.out BK252.out (by decide); intro e_; exact h_ (by rw [e_]; rfl)) _; (with_reducible repeat (first | refine blk_drewN ?_ _ | refine blk_drew ?_ | refine blk_alloc ?_ _)); refine blk_far ?_ (by have h_ := Kd.R_ne HO262.out BK252.out (by decide); intro e_; exact h_ (by rw [e_]; rfl)) _; (with_reducible repeat (first | refine blk_drewN ?_ _ | refine blk_drew ?_ | refine blk_alloc ?_ _)); exact BK252.out) hb); have n2_ := Aside0.mk (blk_below (g := gb255) (o := .cells #[.int .i64 0, .int .i64 a0_1, .int .i64 a0_2, .int .i64 0] 23 (0, 0)) (by (with_reducible repeat (first | refine blk_drewN ?_ _ | refine blk_drew ?_ | refine blk_alloc ?_ _)); refine blk_far ?_ (by have h_ := Kd.R_ne HO262.out BK255.out (by decide); intro e_; exact h_ (by rw [e_]; rfl)) _; (with_reducible repeat (first | refine blk_drewN ?_ _ | refine blk_drew ?_ | refine blk_alloc ?_ _)); refine blk_far ?_ (by have h_ := Kd.R_ne HO262.out BK255.out (by decide); intro e_; exact h_ (by rw [e_]; rfl)) _; (with_reducible repeat (first | refine blk_drewN ?_ _ | refine blk_drew ?_ | refine blk_alloc ?_ _)); exact BK255.out) hb); have n3_ := Aside0.mk (below_step (by repeat (first | (with_reducible first | exact HB.out | apply below_alloc | apply pw_below_drewN | apply below_drew1 | refine below_set ?_ GB28.out | refine below_set ?_ GB28.out | refine below_set ?_ GE252.out | refine below_set ?_ GE255.out) | exact HB.out)) hb); clear HO262; clear BK252; clear BK255; clear HB; have HO262 := n0_; have BK252 := n1_; have BK255 := n2_; have HB := n3_; clear n0_ n1_ n2_ n3_; (try clear hb); (try clear hb2); (try clear hk); (try clear hi); have hcz48_0 : w47.cell? ⟨gb252, 0, none⟩ = some (.int .i64 a0_0) := (blk_cell BK252.out 0).trans rfl; have hcz48_1 : w47.cell? ⟨gb252, 1, none⟩ = some (.int .i64 a0_1) := (blk_cell BK252.out 1).trans rfl; have hcz48_2 : w47.cell? ⟨gb252, 2, none⟩ = some (.int .i64 a0_2) := (blk_cell BK252.out 2).trans rfl; have hcz48_3 : w47.cell? ⟨gb252, 3, none⟩ = some (.int .i64 a0_3) := (blk_cell BK252.out 3).trans rfl; have hfz48_0 := blk_frozen BK252.out 0; have hfz48_1 := blk_frozen BK252.out 1; have hfz48_2 := blk_frozen BK252.out 2; have hfz48_3 := blk_frozen BK252.out 3) | ((with_reducible refine gate_callee (f := 11) rfl ?_); refine goesL_ (some 96) rfl rfl Try.func11 (by kernel_rfl) rfl #[.agg #[.int .i64 a0_0, .int .i64 a0_1, .int .i64 a0_2, .int .i64 a0_3], .slice (some ⟨go28, 0, none⟩) y266.length co28] rfl (by (try simp only [List.map_toArray, List.map_cons, List.map_nil]); first | done | (rw [show y266.length = t260.length from (Kd.R_reads' HO262.out).1.symm] <;> rfl) | rfl | (simp only [List.length_drop, List.length_take]; rfl)) ?_; (with_reducible refine (attempts_Final.calls kj7 a0_0 a0_1 a0_2 a0_3 _ _ y266 t269 t270 _ ?side1 ?side2 A32.out).mono ?_); (case side1 => repeat (first | exact (Kd.R_reads' HO262.out).2.2 | (with_reducible refine Kd.C_alloc ?_ _) | (with_reducible refine Kd.C_drewN ?_ _) | (with_reducible refine Kd.C_drew ?_))); (case side2 => rw [show y266.length = t260.length from (Kd.R_reads' HO262.out).1.symm]; exact (Kd.R_reads' HO262.out).2.1); rintro e w49 ⟨rfl, hb⟩; refine ⟨_, rfl, ?_⟩; have n0_ := Aside0.mk (Kd.R_below (by (with_reducible repeat (first | apply Kd.R_alloc | apply Kd.R_drewN | apply Kd.R_drew)); exact HO262.out) hb); have n1_ := Aside0.mk (blk_below (g := gb252) (o := .cells #[.int .i64 a0_0, .int .i64 a0_1, .int .i64 a0_2, .int .i64 a0_3] 23 (0, 0)) (by (with_reducible repeat (first | refine blk_drewN ?_ _ | refine blk_drew ?_ | refine blk_alloc ?_ _)); exact BK252.out) hb); have n2_ := Aside0.mk (blk_below (g := gb255) (o := .cells #[.int .i64 0, .int .i64 a0_1, .int .i64 a0_2, .int .i64 0] 23 (0, 0)) (by (with_reducible repeat (first | refine blk_drewN ?_ _ | refine blk_drew ?_ | refine blk_alloc ?_ _)); exact BK255.out) hb); have n3_ := Aside0.mk (below_step (by repeat (first | (with_reducible first | exact HB.out | apply below_alloc | apply pw_below_drewN | apply below_drew1 | refine below_set ?_ GE252.out | refine below_set ?_ GE255.out) | exact HB.out)) hb); clear HO262; clear BK252; clear BK255; clear HB; have HO262 := n0_; have BK252 := n1_; have BK255 := n2_; have HB := n3_; clear n0_ n1_ n2_ n3_; (try clear hb); (try clear hb2); (try clear hk); (try clear hi)))
                        (try simp only [Act.put, List.setIfInBounds_toArray, List.set_cons_zero, List.set_cons_succ])
                        go_cut [132] (fun v132 wc => ∃ (kq : Nat) (x132_32 : Bool), v132 = .bool x132_32 ∧ Aside0 (assessorlaw52_AttemptsBest.j1 kq l1 a2 t256 x132_32 a0_0 a0_1 a0_2 a0_3 0 a0_1 a0_2 0 = some r) ∧ Aside0 (kq ≤ kj7) ∧ Aside0 (wc.heap[gb252]? = some (.cells #[.int .i64 a0_0, .int .i64 a0_1, .int .i64 a0_2, .int .i64 a0_3] 23 (0, 0))) ∧ Aside0 (wc.heap[gb255]? = some (.cells #[.int .i64 0, .int .i64 a0_1, .int .i64 a0_2, .int .i64 0] 23 (0, 0))) ∧ Aside0 (Below w.heap.size w wc))
                        case first =>
                          have H := HC33.out
                          clear HC33
                          by_cases c50 : t257 = 0
                          · rw [if_pos c50] at H
                            have c50b0 : (t257 == 0) = true := beq_iff_eq.mpr c50
                            have c50b1 : (t257 != 0) = false := bne_eq_false_iff_eq.mpr c50
                            clear c50
                            (first | rw [c50b0] | (simp only [i64_w, i32_w]; rw [c50b0]) | skip)
                            by_cases c51 : t259 = 0
                            · rw [if_pos c51] at H
                              have c51b0 : (t259 == 0) = true := beq_iff_eq.mpr c51
                              have c51b1 : (t259 != 0) = false := bne_eq_false_iff_eq.mpr c51
                              clear c51
                              by_cases c52 : t268 = 0
                              · rw [if_pos c52] at H
                                have c52b0 : (t268 == 0) = true := beq_iff_eq.mpr c52
                                have c52b1 : (t268 != 0) = false := bne_eq_false_iff_eq.mpr c52
                                clear c52
                                by_cases c53 : t270 = 0
                                · rw [if_pos c53] at H
                                  have c53b0 : (t270 == 0) = true := beq_iff_eq.mpr c53
                                  have c53b1 : (t270 != 0) = false := bne_eq_false_iff_eq.mpr c53
                                  clear c53
                                  by_cases c54 : t258 > t256
                                  · rw [if_pos c54] at H
                                    have c54b0 : decide (t256 < t258) = true := decide_eq_true c54
                                    clear c54
                                    have H' := Aside0.mk H
                                    clear H
                                    go_wp2
                                    go_meet
                                    case rel => exact ⟨_, (true), (by first | rfl | (simp; done) | (simp [*]; done)), H', ⟨by have := HJ7.out; first | omega | exact Nat.le_refl _⟩, ⟨by (with_reducible repeat (first | refine blk_drewN ?_ _ | refine blk_drew ?_ | refine blk_alloc ?_ _)); exact BK252.out⟩, ⟨by (with_reducible repeat (first | refine blk_drewN ?_ _ | refine blk_drew ?_ | refine blk_alloc ?_ _)); exact BK255.out⟩, ⟨by repeat (first | (with_reducible first | exact HB.out | apply below_alloc | apply pw_below_drewN | apply below_drew1 | refine below_set ?_ GE252.out | refine below_set ?_ GE255.out) | exact HB.out)⟩⟩
                                  · rw [if_neg c54] at H
                                    have c54b0 : decide (t256 < t258) = false := decide_eq_false c54
                                    clear c54
                                    by_cases c55 : t256 = t267
                                    · rw [if_pos c55] at H
                                      have c55b0 : (t256 == t267) = true := beq_iff_eq.mpr c55
                                      have c55b1 : (t256 != t267) = false := bne_eq_false_iff_eq.mpr c55
                                      clear c55
                                      by_cases c56 : a0_0 = 1
                                      · rw [if_pos c56] at H
                                        have c56b0 : (a0_0 == 1) = true := beq_iff_eq.mpr c56
                                        have c56b1 : (a0_0 != 1) = false := bne_eq_false_iff_eq.mpr c56
                                        clear c56
                                        have H' := Aside0.mk H
                                        clear H
                                        have hnb57 := NB252_255.out
                                        have hnc57 := NB255_252.out
                                        have hcz58_0 : w49.cell? ⟨gb252, 0, none⟩ = some (.int .i64 a0_0) := (blk_cell BK252.out 0).trans rfl
                                        have hcz58_1 : w49.cell? ⟨gb252, 1, none⟩ = some (.int .i64 a0_1) := (blk_cell BK252.out 1).trans rfl
                                        have hcz58_2 : w49.cell? ⟨gb252, 2, none⟩ = some (.int .i64 a0_2) := (blk_cell BK252.out 2).trans rfl
                                        have hcz58_3 : w49.cell? ⟨gb252, 3, none⟩ = some (.int .i64 a0_3) := (blk_cell BK252.out 3).trans rfl
                                        have hfz58_0 := blk_frozen BK252.out 0
                                        have hfz58_1 := blk_frozen BK252.out 1
                                        have hfz58_2 := blk_frozen BK252.out 2
                                        have hfz58_3 := blk_frozen BK252.out 3
                                        go_wp2
                                        go_meet
                                        case rel => exact ⟨_, (false), (by first | rfl | (simp; done) | (simp [*]; done)), H', ⟨by have := HJ7.out; first | omega | exact Nat.le_refl _⟩, ⟨by (with_reducible repeat (first | refine blk_drewN ?_ _ | refine blk_drew ?_ | refine blk_alloc ?_ _)); exact BK252.out⟩, ⟨by (with_reducible repeat (first | refine blk_drewN ?_ _ | refine blk_drew ?_ | refine blk_alloc ?_ _)); exact BK255.out⟩, ⟨by repeat (first | (with_reducible first | exact HB.out | apply below_alloc | apply pw_below_drewN | apply below_drew1 | refine below_set ?_ GE252.out | refine below_set ?_ GE255.out) | exact HB.out)⟩⟩
                                      · rw [if_neg c56] at H
                                        have c56b0 : (a0_0 == 1) = false := beq_eq_false_iff_ne.mpr c56
                                        have c56b1 : (a0_0 != 1) = true := bne_iff_ne.mpr c56
                                        have H' := Aside0.mk H
                                        clear H
                                        have hnb59 := NB252_255.out
                                        have hnc59 := NB255_252.out
                                        have hcz60_0 : w49.cell? ⟨gb252, 0, none⟩ = some (.int .i64 a0_0) := (blk_cell BK252.out 0).trans rfl
                                        have hcz60_1 : w49.cell? ⟨gb252, 1, none⟩ = some (.int .i64 a0_1) := (blk_cell BK252.out 1).trans rfl
                                        have hcz60_2 : w49.cell? ⟨gb252, 2, none⟩ = some (.int .i64 a0_2) := (blk_cell BK252.out 2).trans rfl
                                        have hcz60_3 : w49.cell? ⟨gb252, 3, none⟩ = some (.int .i64 a0_3) := (blk_cell BK252.out 3).trans rfl
                                        have hfz60_0 := blk_frozen BK252.out 0
                                        have hfz60_1 := blk_frozen BK252.out 1
                                        have hfz60_2 := blk_frozen BK252.out 2
                                        have hfz60_3 := blk_frozen BK252.out 3
                                        go_wp2
                                        go_meet
                                        case rel => exact ⟨_, ((t258 != t269)), (by first | rfl | (simp; done) | (simp [*]; done)), H', ⟨by have := HJ7.out; first | omega | exact Nat.le_refl _⟩, ⟨by (with_reducible repeat (first | refine blk_drewN ?_ _ | refine blk_drew ?_ | refine blk_alloc ?_ _)); exact BK252.out⟩, ⟨by (with_reducible repeat (first | refine blk_drewN ?_ _ | refine blk_drew ?_ | refine blk_alloc ?_ _)); exact BK255.out⟩, ⟨by repeat (first | (with_reducible first | exact HB.out | apply below_alloc | apply pw_below_drewN | apply below_drew1 | refine below_set ?_ GE252.out | refine below_set ?_ GE255.out) | exact HB.out)⟩⟩
                                    · rw [if_neg c55] at H
                                      have c55b0 : (t256 == t267) = false := beq_eq_false_iff_ne.mpr c55
                                      have c55b1 : (t256 != t267) = true := bne_iff_ne.mpr c55
                                      have H' := Aside0.mk H
                                      clear H
                                      go_wp2
                                      go_meet
                                      case rel => exact ⟨_, (true), (by first | rfl | (simp; done) | (simp [*]; done)), H', ⟨by have := HJ7.out; first | omega | exact Nat.le_refl _⟩, ⟨by (with_reducible repeat (first | refine blk_drewN ?_ _ | refine blk_drew ?_ | refine blk_alloc ?_ _)); exact BK252.out⟩, ⟨by (with_reducible repeat (first | refine blk_drewN ?_ _ | refine blk_drew ?_ | refine blk_alloc ?_ _)); exact BK255.out⟩, ⟨by repeat (first | (with_reducible first | exact HB.out | apply below_alloc | apply pw_below_drewN | apply below_drew1 | refine below_set ?_ GE252.out | refine below_set ?_ GE255.out) | exact HB.out)⟩⟩
                                · rw [if_neg c53] at H
                                  have c53b0 : (t270 == 0) = false := beq_eq_false_iff_ne.mpr c53
                                  have c53b1 : (t270 != 0) = true := bne_iff_ne.mpr c53
                                  have H' := Aside0.mk H
                                  clear H
                                  go_wp2
                                  go_meet
                                  case rel => exact ⟨_, (true), (by first | rfl | (simp; done) | (simp [*]; done)), H', ⟨by have := HJ7.out; first | omega | exact Nat.le_refl _⟩, ⟨by (with_reducible repeat (first | refine blk_drewN ?_ _ | refine blk_drew ?_ | refine blk_alloc ?_ _)); exact BK252.out⟩, ⟨by (with_reducible repeat (first | refine blk_drewN ?_ _ | refine blk_drew ?_ | refine blk_alloc ?_ _)); exact BK255.out⟩, ⟨by repeat (first | (with_reducible first | exact HB.out | apply below_alloc | apply pw_below_drewN | apply below_drew1 | refine below_set ?_ GE252.out | refine below_set ?_ GE255.out) | exact HB.out)⟩⟩
                              · rw [if_neg c52] at H
                                have c52b0 : (t268 == 0) = false := beq_eq_false_iff_ne.mpr c52
                                have c52b1 : (t268 != 0) = true := bne_iff_ne.mpr c52
                                have H' := Aside0.mk H
                                clear H
                                go_wp2
                                go_meet
                                case rel => exact ⟨_, (true), (by first | rfl | (simp; done) | (simp [*]; done)), H', ⟨by have := HJ7.out; first | omega | exact Nat.le_refl _⟩, ⟨by (with_reducible repeat (first | refine blk_drewN ?_ _ | refine blk_drew ?_ | refine blk_alloc ?_ _)); exact BK252.out⟩, ⟨by (with_reducible repeat (first | refine blk_drewN ?_ _ | refine blk_drew ?_ | refine blk_alloc ?_ _)); exact BK255.out⟩, ⟨by repeat (first | (with_reducible first | exact HB.out | apply below_alloc | apply pw_below_drewN | apply below_drew1 | refine below_set ?_ GE252.out | refine below_set ?_ GE255.out) | exact HB.out)⟩⟩
                            · rw [if_neg c51] at H
                              have c51b0 : (t259 == 0) = false := beq_eq_false_iff_ne.mpr c51
                              have c51b1 : (t259 != 0) = true := bne_iff_ne.mpr c51
                              have H' := Aside0.mk H
                              clear H
                              go_wp2
                              go_meet
                              case rel => exact ⟨_, (true), (by first | rfl | (simp; done) | (simp [*]; done)), H', ⟨by have := HJ7.out; first | omega | exact Nat.le_refl _⟩, ⟨by (with_reducible repeat (first | refine blk_drewN ?_ _ | refine blk_drew ?_ | refine blk_alloc ?_ _)); exact BK252.out⟩, ⟨by (with_reducible repeat (first | refine blk_drewN ?_ _ | refine blk_drew ?_ | refine blk_alloc ?_ _)); exact BK255.out⟩, ⟨by repeat (first | (with_reducible first | exact HB.out | apply below_alloc | apply pw_below_drewN | apply below_drew1 | refine below_set ?_ GE252.out | refine below_set ?_ GE255.out) | exact HB.out)⟩⟩
                          · rw [if_neg c50] at H
                            have c50b0 : (t257 == 0) = false := beq_eq_false_iff_ne.mpr c50
                            have c50b1 : (t257 != 0) = true := bne_iff_ne.mpr c50
                            (first | rw [c50b0] | (simp only [i64_w, i32_w]; rw [c50b0]) | skip)
                            have H' := Aside0.mk H
                            clear H
                            go_wp2
                            go_meet
                            case rel => exact ⟨_, (true), (by first | rfl | (simp; done) | (simp [*]; done)), H', ⟨by have := HJ7.out; first | omega | exact Nat.le_refl _⟩, ⟨by (with_reducible repeat (first | refine blk_drewN ?_ _ | refine blk_drew ?_ | refine blk_alloc ?_ _)); exact BK252.out⟩, ⟨by (with_reducible repeat (first | refine blk_drewN ?_ _ | refine blk_drew ?_ | refine blk_alloc ?_ _)); exact BK255.out⟩, ⟨by repeat (first | (with_reducible first | exact HB.out | apply below_alloc | apply pw_below_drewN | apply below_drew1 | refine below_set ?_ GE252.out | refine below_set ?_ GE255.out) | exact HB.out)⟩⟩
                        case rest =>
                          clear HC33
                          try clear c1
                          try clear c2
                          try clear p2
                          try clear q2
                          try clear hx2
                          try clear c3
                          try clear p3
                          try clear q3
                          try clear hx3
                          try clear c4
                          try clear c5
                          try clear p6
                          try clear c11
                          try clear c16
                          try clear c19
                          try clear c20
                          try clear c20b0
                          try clear c20b1
                          try clear c20b2
                          try clear c22
                          try clear c22b0
                          try clear c23
                          try clear c23b0
                          try clear c25
                          try clear c25b0
                          try clear c26
                          try clear c26b0
                          try clear p26
                          try clear q26
                          try clear hx26
                          try clear c27
                          try clear c27b0
                          try clear c28
                          try clear p28
                          try clear q28
                          try clear hx28
                          try clear hf28
                          try clear c29
                          try clear c29b0
                          try clear c30
                          try clear p30
                          try clear q30
                          try clear hx30
                          try clear hf30
                          try clear c36
                          try clear c44
                          try clear c45
                          try clear c50
                          try clear c50b0
                          try clear c50b1
                          try clear c51
                          try clear c51b0
                          try clear c51b1
                          try clear c52
                          try clear c52b0
                          try clear c52b1
                          try clear c53
                          try clear c53b0
                          try clear c53b1
                          try clear c54
                          try clear c54b0
                          try clear c55
                          try clear c55b0
                          try clear c55b1
                          try clear c56
                          try clear c56b0
                          try clear c56b1
                          try clear c57
                          try clear c59
                          try clear hcz14_3
                          try clear hcz34_0
                          try clear hcz34_1
                          try clear hcz34_2
                          try clear hcz34_3
                          try clear hcz37_0
                          try clear hcz37_1
                          try clear hcz37_2
                          try clear hcz37_3
                          try clear hcz39_0
                          try clear hcz39_1
                          try clear hcz39_2
                          try clear hcz39_3
                          try clear hcz46_0
                          try clear hcz46_1
                          try clear hcz46_2
                          try clear hcz46_3
                          try clear hcz48_0
                          try clear hcz48_1
                          try clear hcz48_2
                          try clear hcz48_3
                          try clear hcz58_0
                          try clear hcz58_1
                          try clear hcz58_2
                          try clear hcz58_3
                          try clear hcz60_0
                          try clear hcz60_1
                          try clear hcz60_2
                          try clear hcz60_3
                          try clear hfz14_0
                          try clear hfz14_1
                          try clear hfz14_2
                          try clear hfz14_3
                          try clear hfz34_0
                          try clear hfz34_1
                          try clear hfz34_2
                          try clear hfz34_3
                          try clear hfz37_0
                          try clear hfz37_1
                          try clear hfz37_2
                          try clear hfz37_3
                          try clear hfz39_0
                          try clear hfz39_1
                          try clear hfz39_2
                          try clear hfz39_3
                          try clear hfz46_0
                          try clear hfz46_1
                          try clear hfz46_2
                          try clear hfz46_3
                          try clear hfz48_0
                          try clear hfz48_1
                          try clear hfz48_2
                          try clear hfz48_3
                          try clear hfz58_0
                          try clear hfz58_1
                          try clear hfz58_2
                          try clear hfz58_3
                          try clear hfz60_0
                          try clear hfz60_1
                          try clear hfz60_2
                          try clear hfz60_3
                          try clear hx263_0
                          try clear hx263_1
                          try clear hx263_2
                          try clear hx264_0
                          try clear hx264_1
                          try clear hx264_2
                          try clear hx28_0
                          try clear hx28_1
                          try clear hx28_2
                          try clear hx30_0
                          try clear hx30_1
                          try clear hx30_2
                          try clear p263
                          try clear p264
                          try clear p28
                          try clear p30
                          try clear q263
                          try clear q264
                          try clear q28
                          try clear q30
                          obtain ⟨kq, x132_32, rfl, HA, HJ32, BK252, BK255, HB⟩ := hcut
                          cases kq with
                          | zero => exact absurd HA.out (by simp [assessorlaw52_AttemptsBest.j1])
                          | succ kj32 =>
                            have H := HA.out
                            clear HA
                            simp only [assessorlaw52_AttemptsBest.j1] at H
                            by_cases c61 : x132_32 = true
                            · subst c61
                              have H1 : (some false) = some r := by rw [if_pos rfl] at H; exact H
                              clear H
                              have H := H1
                              clear H1
                              obtain rfl := Option.some.inj H
                              go_wp2
                              go_ret
                              exact ⟨by first | rfl | (simp [errW_none, errW_some] <;> rfl) | (simp only [← hji21, ← hji24]; first | rfl | (simp [errW_none, errW_some] <;> rfl)) | (simp [*, errW_none, errW_some] <;> rfl) | (simp [IntKind.wrap_i64, wrap64]; done), by repeat (first | (with_reducible first | exact HB.out | apply below_alloc | apply pw_below_drewN | apply below_drew1 | refine below_set ?_ GE252.out | refine below_set ?_ GE255.out) | exact HB.out)⟩
                            · replace c61 := Bool.eq_false_iff.mpr c61
                              subst c61
                              have H1 : (if (l1.length : Int) = a0_1 then (assessorlaw52_AttemptsBest.j2 kj32 l1 a2 t256 true 0 a0_1 a0_2 0) else (if a2 < 0 then (assessorlaw52_AttemptsBest.j2 kj32 l1 a2 t256 true 0 a0_1 a0_2 0) else (assessorlaw52_AttemptsBest.j2 kj32 l1 a2 t256 (decide (a2 > 100000000)) 0 a0_1 a0_2 0))) = some r := by rw [if_neg (show ¬ (false = true) by decide)] at H; exact H
                              clear H
                              have H := H1
                              clear H1
                              have HC62 := Aside0.mk H
                              clear H
                              go_upto_region 15 with (fail)
                              go_cut [145] (fun v145 wc => ∃ (kq : Nat) (x145_61 : Bool), v145 = .bool x145_61 ∧ Aside0 (assessorlaw52_AttemptsBest.j2 kq l1 a2 t256 x145_61 0 a0_1 a0_2 0 = some r) ∧ Aside0 (kq ≤ kj32) ∧ Aside0 (wc.heap[gb252]? = some (.cells #[.int .i64 a0_0, .int .i64 a0_1, .int .i64 a0_2, .int .i64 a0_3] 23 (0, 0))) ∧ Aside0 (wc.heap[gb255]? = some (.cells #[.int .i64 0, .int .i64 a0_1, .int .i64 a0_2, .int .i64 0] 23 (0, 0))) ∧ Aside0 (Below w.heap.size w wc))
                              case first =>
                                have H := HC62.out
                                clear HC62
                                by_cases c63 : (l1.length : Int) = a0_1
                                · rw [if_pos c63] at H
                                  have c63b0 : ((l1.length : Int) == a0_1) = true := beq_iff_eq.mpr c63
                                  have c63b1 : ((l1.length : Int) != a0_1) = false := bne_eq_false_iff_eq.mpr c63
                                  clear c63
                                  (first | rw [c63b0] | (simp only [i64_w, i32_w]; rw [c63b0]) | skip)
                                  have H' := Aside0.mk H
                                  clear H
                                  have hnb64 := NB252_255.out
                                  have hnc64 := NB255_252.out
                                  have hcz65_0 : wc.cell? ⟨gb252, 0, none⟩ = some (.int .i64 a0_0) := (blk_cell BK252.out 0).trans rfl
                                  have hcz65_1 : wc.cell? ⟨gb252, 1, none⟩ = some (.int .i64 a0_1) := (blk_cell BK252.out 1).trans rfl
                                  have hcz65_2 : wc.cell? ⟨gb252, 2, none⟩ = some (.int .i64 a0_2) := (blk_cell BK252.out 2).trans rfl
                                  have hcz65_3 : wc.cell? ⟨gb252, 3, none⟩ = some (.int .i64 a0_3) := (blk_cell BK252.out 3).trans rfl
                                  have hfz65_0 := blk_frozen BK252.out 0
                                  have hfz65_1 := blk_frozen BK252.out 1
                                  have hfz65_2 := blk_frozen BK252.out 2
                                  have hfz65_3 := blk_frozen BK252.out 3
                                  go_wp2
                                  go_meet
                                  case rel => exact ⟨_, (true), (by first | rfl | (simp; done) | (simp [*]; done)), H', ⟨by have := HJ7.out; have := HJ32.out; first | omega | exact Nat.le_refl _⟩, ⟨by (with_reducible repeat (first | refine blk_drewN ?_ _ | refine blk_drew ?_ | refine blk_alloc ?_ _)); exact BK252.out⟩, ⟨by (with_reducible repeat (first | refine blk_drewN ?_ _ | refine blk_drew ?_ | refine blk_alloc ?_ _)); exact BK255.out⟩, ⟨by repeat (first | (with_reducible first | exact HB.out | apply below_alloc | apply pw_below_drewN | apply below_drew1 | refine below_set ?_ GE252.out | refine below_set ?_ GE255.out) | exact HB.out)⟩⟩
                                · rw [if_neg c63] at H
                                  have c63b0 : ((l1.length : Int) == a0_1) = false := beq_eq_false_iff_ne.mpr c63
                                  have c63b1 : ((l1.length : Int) != a0_1) = true := bne_iff_ne.mpr c63
                                  (first | rw [c63b0] | (simp only [i64_w, i32_w]; rw [c63b0]) | skip)
                                  by_cases c66 : a2 < 0
                                  · rw [if_pos c66] at H
                                    have c66b0 : decide (a2 < 0) = true := decide_eq_true c66
                                    clear c66
                                    have H' := Aside0.mk H
                                    clear H
                                    have hnb67 := NB252_255.out
                                    have hnc67 := NB255_252.out
                                    have hcz68_0 : wc.cell? ⟨gb252, 0, none⟩ = some (.int .i64 a0_0) := (blk_cell BK252.out 0).trans rfl
                                    have hcz68_1 : wc.cell? ⟨gb252, 1, none⟩ = some (.int .i64 a0_1) := (blk_cell BK252.out 1).trans rfl
                                    have hcz68_2 : wc.cell? ⟨gb252, 2, none⟩ = some (.int .i64 a0_2) := (blk_cell BK252.out 2).trans rfl
                                    have hcz68_3 : wc.cell? ⟨gb252, 3, none⟩ = some (.int .i64 a0_3) := (blk_cell BK252.out 3).trans rfl
                                    have hfz68_0 := blk_frozen BK252.out 0
                                    have hfz68_1 := blk_frozen BK252.out 1
                                    have hfz68_2 := blk_frozen BK252.out 2
                                    have hfz68_3 := blk_frozen BK252.out 3
                                    go_wp2
                                    go_meet
                                    case rel => exact ⟨_, (true), (by first | rfl | (simp; done) | (simp [*]; done)), H', ⟨by have := HJ7.out; have := HJ32.out; first | omega | exact Nat.le_refl _⟩, ⟨by (with_reducible repeat (first | refine blk_drewN ?_ _ | refine blk_drew ?_ | refine blk_alloc ?_ _)); exact BK252.out⟩, ⟨by (with_reducible repeat (first | refine blk_drewN ?_ _ | refine blk_drew ?_ | refine blk_alloc ?_ _)); exact BK255.out⟩, ⟨by repeat (first | (with_reducible first | exact HB.out | apply below_alloc | apply pw_below_drewN | apply below_drew1 | refine below_set ?_ GE252.out | refine below_set ?_ GE255.out) | exact HB.out)⟩⟩
                                  · rw [if_neg c66] at H
                                    have c66b0 : decide (a2 < 0) = false := decide_eq_false c66
                                    clear c66
                                    have H' := Aside0.mk H
                                    clear H
                                    have hnb69 := NB252_255.out
                                    have hnc69 := NB255_252.out
                                    have hcz70_0 : wc.cell? ⟨gb252, 0, none⟩ = some (.int .i64 a0_0) := (blk_cell BK252.out 0).trans rfl
                                    have hcz70_1 : wc.cell? ⟨gb252, 1, none⟩ = some (.int .i64 a0_1) := (blk_cell BK252.out 1).trans rfl
                                    have hcz70_2 : wc.cell? ⟨gb252, 2, none⟩ = some (.int .i64 a0_2) := (blk_cell BK252.out 2).trans rfl
                                    have hcz70_3 : wc.cell? ⟨gb252, 3, none⟩ = some (.int .i64 a0_3) := (blk_cell BK252.out 3).trans rfl
                                    have hfz70_0 := blk_frozen BK252.out 0
                                    have hfz70_1 := blk_frozen BK252.out 1
                                    have hfz70_2 := blk_frozen BK252.out 2
                                    have hfz70_3 := blk_frozen BK252.out 3
                                    go_wp2
                                    go_meet
                                    case rel => exact ⟨_, (decide (a2 > 100000000)), (by first | rfl | (simp; done) | (simp [*]; done)), H', ⟨by have := HJ7.out; have := HJ32.out; first | omega | exact Nat.le_refl _⟩, ⟨by (with_reducible repeat (first | refine blk_drewN ?_ _ | refine blk_drew ?_ | refine blk_alloc ?_ _)); exact BK252.out⟩, ⟨by (with_reducible repeat (first | refine blk_drewN ?_ _ | refine blk_drew ?_ | refine blk_alloc ?_ _)); exact BK255.out⟩, ⟨by repeat (first | (with_reducible first | exact HB.out | apply below_alloc | apply pw_below_drewN | apply below_drew1 | refine below_set ?_ GE252.out | refine below_set ?_ GE255.out) | exact HB.out)⟩⟩
                              case rest =>
                                clear HC62
                                try clear c1
                                try clear c2
                                try clear p2
                                try clear q2
                                try clear hx2
                                try clear c3
                                try clear p3
                                try clear q3
                                try clear hx3
                                try clear c4
                                try clear c5
                                try clear c6
                                try clear p6
                                try clear c11
                                try clear c16
                                try clear c19
                                try clear c20
                                try clear c20b0
                                try clear c20b1
                                try clear c20b2
                                try clear c22
                                try clear c22b0
                                try clear c23
                                try clear c23b0
                                try clear c25
                                try clear c25b0
                                try clear c26
                                try clear c26b0
                                try clear p26
                                try clear q26
                                try clear hx26
                                try clear c27
                                try clear c27b0
                                try clear c28
                                try clear p28
                                try clear q28
                                try clear hx28
                                try clear hf28
                                try clear c29
                                try clear c29b0
                                try clear c30
                                try clear p30
                                try clear q30
                                try clear hx30
                                try clear hf30
                                try clear c36
                                try clear c44
                                try clear c45
                                try clear c50
                                try clear c50b0
                                try clear c50b1
                                try clear c51
                                try clear c51b0
                                try clear c51b1
                                try clear c52
                                try clear c52b0
                                try clear c52b1
                                try clear c53
                                try clear c53b0
                                try clear c53b1
                                try clear c54
                                try clear c54b0
                                try clear c55
                                try clear c55b0
                                try clear c55b1
                                try clear c56
                                try clear c56b0
                                try clear c56b1
                                try clear c57
                                try clear c59
                                try clear c61
                                try clear c63
                                try clear c63b0
                                try clear c63b1
                                try clear c64
                                try clear c66
                                try clear c66b0
                                try clear c67
                                try clear c69
                                try clear hcz14_3
                                try clear hcz34_0
                                try clear hcz34_1
                                try clear hcz34_2
                                try clear hcz34_3
                                try clear hcz37_0
                                try clear hcz37_1
                                try clear hcz37_2
                                try clear hcz37_3
                                try clear hcz39_0
                                try clear hcz39_1
                                try clear hcz39_2
                                try clear hcz39_3
                                try clear hcz46_0
                                try clear hcz46_1
                                try clear hcz46_2
                                try clear hcz46_3
                                try clear hcz48_0
                                try clear hcz48_1
                                try clear hcz48_2
                                try clear hcz48_3
                                try clear hcz58_0
                                try clear hcz58_1
                                try clear hcz58_2
                                try clear hcz58_3
                                try clear hcz60_0
                                try clear hcz60_1
                                try clear hcz60_2
                                try clear hcz60_3
                                try clear hcz65_0
                                try clear hcz65_1
                                try clear hcz65_2
                                try clear hcz65_3
                                try clear hcz68_0
                                try clear hcz68_1
                                try clear hcz68_2
                                try clear hcz68_3
                                try clear hcz70_0
                                try clear hcz70_1
                                try clear hcz70_2
                                try clear hcz70_3
                                try clear hfz14_0
                                try clear hfz14_1
                                try clear hfz14_2
                                try clear hfz14_3
                                try clear hfz34_0
                                try clear hfz34_1
                                try clear hfz34_2
                                try clear hfz34_3
                                try clear hfz37_0
                                try clear hfz37_1
                                try clear hfz37_2
                                try clear hfz37_3
                                try clear hfz39_0
                                try clear hfz39_1
                                try clear hfz39_2
                                try clear hfz39_3
                                try clear hfz46_0
                                try clear hfz46_1
                                try clear hfz46_2
                                try clear hfz46_3
                                try clear hfz48_0
                                try clear hfz48_1
                                try clear hfz48_2
                                try clear hfz48_3
                                try clear hfz58_0
                                try clear hfz58_1
                                try clear hfz58_2
                                try clear hfz58_3
                                try clear hfz60_0
                                try clear hfz60_1
                                try clear hfz60_2
                                try clear hfz60_3
                                try clear hfz65_0
                                try clear hfz65_1
                                try clear hfz65_2
                                try clear hfz65_3
                                try clear hfz68_0
                                try clear hfz68_1
                                try clear hfz68_2
                                try clear hfz68_3
                                try clear hfz70_0
                                try clear hfz70_1
                                try clear hfz70_2
                                try clear hfz70_3
                                try clear hx263_0
                                try clear hx263_1
                                try clear hx263_2
                                try clear hx264_0
                                try clear hx264_1
                                try clear hx264_2
                                try clear hx28_0
                                try clear hx28_1
                                try clear hx28_2
                                try clear hx30_0
                                try clear hx30_1
                                try clear hx30_2
                                try clear p2
                                try clear p26
                                try clear p263
                                try clear p264
                                try clear p28
                                try clear p3
                                try clear p30
                                try clear p6
                                try clear q2
                                try clear q26
                                try clear q263
                                try clear q264
                                try clear q28
                                try clear q3
                                try clear q30
                                obtain ⟨kq, x145_61, rfl, HA, HJ61, BK252, BK255, HB⟩ := hcut
                                cases kq with
                                | zero => exact absurd HA.out (by simp [assessorlaw52_AttemptsBest.j2])
                                | succ kj61 =>
                                  have H := HA.out
                                  clear HA
                                  simp only [assessorlaw52_AttemptsBest.j2] at H
                                  by_cases c71 : x145_61 = true
                                  · subst c71
                                    have H1 : (some true) = some r := by rw [if_pos rfl] at H; exact H
                                    clear H
                                    have H := H1
                                    clear H1
                                    obtain rfl := Option.some.inj H
                                    go_wp2
                                    go_ret
                                    exact ⟨by first | rfl | (simp [errW_none, errW_some] <;> rfl) | (simp only [← hji21, ← hji24]; first | rfl | (simp [errW_none, errW_some] <;> rfl)) | (simp [*, errW_none, errW_some] <;> rfl) | (simp [IntKind.wrap_i64, wrap64]; done), by repeat (first | (with_reducible first | exact HB.out | apply below_alloc | apply pw_below_drewN | apply below_drew1 | refine below_set ?_ GE252.out | refine below_set ?_ GE255.out) | exact HB.out)⟩
                                  · replace c71 := Bool.eq_false_iff.mpr c71
                                    subst c71
                                    have H1 : ((assessorlaw52_next.f l1 a2).bind fun t271 => ((attempts_Final.f kj61 0 a0_1 a0_2 0 t271).bind fun bt274 => (if bt274.2 = 0 then (some (bt274.1 == (mx t256 a2))) else (some false)))) = some r := by rw [if_neg (show ¬ (false = true) by decide)] at H; exact H
                                    clear H
                                    have H := H1
                                    clear H1
                                    replace H := Option.bind_eq_some_iff.mp H
                                    obtain ⟨t271, A720, H⟩ := H
                                    replace H : ((attempts_Final.f kj61 0 a0_1 a0_2 0 t271).bind fun bt274 => (if bt274.2 = 0 then (some (bt274.1 == (mx t256 a2))) else (some false))) = some r := H
                                    have A72 := Aside0.mk A720
                                    clear A720
                                    replace H := Option.bind_eq_some_iff.mp H
                                    obtain ⟨⟨t274, t275⟩, A730, H⟩ := H
                                    replace H : (if t275 = 0 then (some (t274 == (mx t256 a2))) else (some false)) = some r := H
                                    have A73 := Aside0.mk A730
                                    clear A730
                                    by_cases c74 : t275 = 0
                                    · rw [if_pos c74] at H
                                      have c74b0 : (t275 == 0) = true := beq_iff_eq.mpr c74
                                      have c74b1 : (t275 != 0) = false := bne_eq_false_iff_eq.mpr c74
                                      clear c74
                                      obtain ⟨ji75, hji75⟩ : ∃ j_ : Int, (mx t256 a2) = j_ := ⟨_, rfl⟩
                                      replace H : (some (t274 == (ji75))) = some r := by first | (rw [hji75] at H; exact H) | (simp only [hji75] at H ⊢; exact H)
                                      (try rw [hji75] at A72)
                                      (try rw [hji75] at A73)
                                      have hji75_ : (if t256 < a2 then a2 else t256) = ji75 := hji75
                                      obtain rfl := Option.some.inj H
                                      try go_wp2
                                      have n0_ := Aside0.mk (blk_drew BK252.out)
                                      have n1_ := Aside0.mk (blk_drew BK255.out)
                                      have n2_ := Aside0.mk (below_drew1 HB.out)
                                      clear BK252
                                      clear BK255
                                      clear HB
                                      have BK252 := n0_
                                      have BK255 := n1_
                                      have HB := n2_
                                      clear n0_ n1_ n2_
                                      refine start_ (n := 10) (S := fun w' => w'.cell? ⟨gb255, 0, none⟩ = some (.int .i64 0) ∧ w'.cell? ⟨gb255, 1, none⟩ = some (.int .i64 a0_1) ∧ w'.cell? ⟨gb255, 2, none⟩ = some (.int .i64 a0_2) ∧ w'.cell? ⟨gb255, 3, none⟩ = some (.int .i64 0)) (ds := []) #[false, false, false, false, false, false, false, false, false, false] (by kernel_rfl) rfl rfl ⟨(blk_cell BK255.out 0).trans rfl, (blk_cell BK255.out 1).trans rfl, (blk_cell BK255.out 2).trans rfl, (blk_cell BK255.out 3).trans rfl⟩ (fun hHeld => ?_); refine with_tabW assessorlaw52_AttemptsBest.tab17 assessorlaw52_AttemptsBest.bits17 (fun HT_ HW_ => ?_)
                                      generalize wc.drew = w76 at BK252 BK255 HB hHeld ⊢
                                      refine pure_ (i := 1) (N := some 148) (v := ?_) (a' := ?_) #[false, true, false, false, false, false, false, false, false, false] rfl rfl (any_of HT_.out (by kernel_rfl)) (fun _ _ _ h => h) (Or.inl ⟨by rfl, ?_⟩) ?_ ?_
                                      rotate_left
                                      · intro w'
                                        go_simp
                                        with_reducible rfl
                                      rotate_left
                                      · simp only [Act.put, List.setIfInBounds_toArray, List.set_cons_zero, List.set_cons_succ, i64_w, i32_w]
                                        rfl
                                      refine pure_ (i := 2) (N := some 149) (v := ?_) (a' := ?_) #[false, true, true, false, false, false, false, false, false, false] rfl rfl (any_of HT_.out (by kernel_rfl)) (fun _ _ _ h => h) (Or.inl ⟨by rfl, ?_⟩) ?_ ?_
                                      rotate_left
                                      · intro w'
                                        go_simp
                                        with_reducible rfl
                                      rotate_left
                                      · simp only [Act.put, List.setIfInBounds_toArray, List.set_cons_zero, List.set_cons_succ, i64_w, i32_w]
                                        rfl
                                      refine take_ (i := 0) (N := some 147) (v := ?_) (a' := ?_) #[true, true, true, false, false, false, false, false, false, false] rfl rfl (take_ofW HT_.out HW_.out (by kernel_rfl)) (fun _ _ _ h => h) (Or.inl ⟨by rfl, ?_⟩) hHeld ?_ ?_
                                      rotate_left
                                      · rintro w' ⟨s0, s1, s2, s3⟩
                                        go_simp
                                        with_reducible rfl
                                      rotate_left
                                      · simp only [Act.put, List.setIfInBounds_toArray, List.set_cons_zero, List.set_cons_succ, i64_w, i32_w]
                                        rfl
                                      refine one_ (i := 3) (N := some 150) #[true, true, true, true, false, false, false, false, false, false] rfl rfl (one_of HT_.out (by kernel_rfl)) (by decide) (fun K hK => ?_)
                                      refine goes_ Try.func20 (by kernel_rfl) rfl #[.slice (some ad263) l1.length c1, .int .i64 a2] (by rfl) rfl rfl (by (try simp only [List.map_toArray, List.map_cons, List.map_nil]); first | done | rfl | (simp only [List.length_drop, List.length_take]; rfl)) ?_
                                      with_reducible refine (assessorlaw52_next.calls _ _ l1 a2 t271 _ ?side1 ?side2 A72.out).mono ?_
                                      (case side1 => repeat (first | exact (Kd.C_below HR1.out HB.out) | (with_reducible refine Kd.C_alloc ?_ _) | (with_reducible refine Kd.C_drewN ?_ _) | (with_reducible refine Kd.C_drew ?_)))
                                      (case side2 => exact HC1.out)
                                      rintro e w77 ⟨v272, rfl, ho0, hb⟩
                                      refine ⟨_, rfl, ?_⟩
                                      have n0_ := Aside0.mk (Kd.R_lower ho0 (below_size (by repeat (first | (with_reducible first | exact HB.out | apply below_alloc | apply pw_below_drewN | apply below_drew1 | refine below_set ?_ GE252.out | refine below_set ?_ GE255.out) | exact HB.out))))
                                      have n1_ := Aside0.mk (blk_below (g := gb252) (o := .cells #[.int .i64 a0_0, .int .i64 a0_1, .int .i64 a0_2, .int .i64 a0_3] 23 (0, 0)) (by (with_reducible repeat (first | refine blk_drewN ?_ _ | refine blk_drew ?_ | refine blk_alloc ?_ _)); exact BK252.out) hb)
                                      have n2_ := Aside0.mk (blk_below (g := gb255) (o := .cells #[.int .i64 0, .int .i64 a0_1, .int .i64 a0_2, .int .i64 0] 23 (0, 0)) (by (with_reducible repeat (first | refine blk_drewN ?_ _ | refine blk_drew ?_ | refine blk_alloc ?_ _)); exact BK255.out) hb)
                                      have n3_ := Aside0.mk (below_step (by repeat (first | (with_reducible first | exact HB.out | apply below_alloc | apply pw_below_drewN | apply below_drew1 | refine below_set ?_ GE252.out | refine below_set ?_ GE255.out) | exact HB.out)) hb)
                                      clear BK252
                                      clear BK255
                                      clear HB
                                      have HO273 := n0_
                                      have BK252 := n1_
                                      have BK255 := n2_
                                      have HB := n3_
                                      clear n0_ n1_ n2_ n3_
                                      (try clear hb)
                                      (try clear hb2)
                                      (try clear hk)
                                      (try clear hi)
                                      (try clear ho0)
                                      obtain ⟨Ao78, co78, eo78⟩ := Kd.R_slice HO273.out
                                      (first | subst eo78 | (injection eo78 with f1_ f2_ f3_; have f4_ := f1_.symm; have f5_ := f3_.symm; clear f1_ f2_ f3_; subst f4_; subst f5_))
                                      refine hK.out _ _ ⟨(blk_cell BK255.out 0).trans rfl, (blk_cell BK255.out 1).trans rfl, (blk_cell BK255.out 2).trans rfl, (blk_cell BK255.out 3).trans rfl⟩ (fun hHeld => ?_)
                                      clear hK K
                                      refine norm_ (a' := ?_) ?_ ?_
                                      rotate_left
                                      · show Act.put _ (some 150) _ = _
                                        simp only [Act.put, List.setIfInBounds_toArray, List.set_cons_zero, List.set_cons_succ, i64_w, i32_w]
                                        rfl
                                      refine one_ (i := 4) (N := some 151) #[true, true, true, true, true, false, false, false, false, false] rfl rfl (one_of HT_.out (by kernel_rfl)) (by decide) (fun K hK => ?_)
                                      refine goes_ Try.func11 (by kernel_rfl) rfl #[.agg #[.int .i64 0, .int .i64 a0_1, .int .i64 a0_2, .int .i64 0], .slice Ao78 t271.length co78] (by rfl) rfl rfl (by (try simp only [List.map_toArray, List.map_cons, List.map_nil]); first | done | rfl | (simp only [List.length_drop, List.length_take]; rfl)) ?_
                                      with_reducible refine (attempts_Final.calls kj61 0 a0_1 a0_2 0 _ _ t271 t274 t275 _ ?side1 ?side2 A73.out).mono ?_
                                      (case side1 => repeat (first | exact (Kd.R_reads' HO273.out).2.2 | (with_reducible refine Kd.C_alloc ?_ _) | (with_reducible refine Kd.C_drewN ?_ _) | (with_reducible refine Kd.C_drew ?_)))
                                      (case side2 => exact (Kd.R_reads' HO273.out).2.1)
                                      rintro e w79 ⟨rfl, hb⟩
                                      refine ⟨_, rfl, ?_⟩
                                      have n0_ := Aside0.mk (Kd.R_below (by (with_reducible repeat (first | apply Kd.R_alloc | apply Kd.R_drewN | apply Kd.R_drew)); exact HO273.out) hb)
                                      have n1_ := Aside0.mk (blk_below (g := gb252) (o := .cells #[.int .i64 a0_0, .int .i64 a0_1, .int .i64 a0_2, .int .i64 a0_3] 23 (0, 0)) (by (with_reducible repeat (first | refine blk_drewN ?_ _ | refine blk_drew ?_ | refine blk_alloc ?_ _)); exact BK252.out) hb)
                                      have n2_ := Aside0.mk (blk_below (g := gb255) (o := .cells #[.int .i64 0, .int .i64 a0_1, .int .i64 a0_2, .int .i64 0] 23 (0, 0)) (by (with_reducible repeat (first | refine blk_drewN ?_ _ | refine blk_drew ?_ | refine blk_alloc ?_ _)); exact BK255.out) hb)
                                      have n3_ := Aside0.mk (below_step (by repeat (first | (with_reducible first | exact HB.out | apply below_alloc | apply pw_below_drewN | apply below_drew1 | refine below_set ?_ GE252.out | refine below_set ?_ GE255.out) | exact HB.out)) hb)
                                      clear HO273
                                      clear BK252
                                      clear BK255
                                      clear HB
                                      have HO273 := n0_
                                      have BK252 := n1_
                                      have BK255 := n2_
                                      have HB := n3_
                                      clear n0_ n1_ n2_ n3_
                                      (try clear hb)
                                      (try clear hb2)
                                      (try clear hk)
                                      (try clear hi)
                                      refine hK.out _ _ ⟨(blk_cell BK255.out 0).trans rfl, (blk_cell BK255.out 1).trans rfl, (blk_cell BK255.out 2).trans rfl, (blk_cell BK255.out 3).trans rfl⟩ (fun hHeld => ?_)
                                      clear hK K
                                      refine norm_ (a' := ?_) ?_ ?_
                                      rotate_left
                                      · show Act.put _ (some 151) _ = _
                                        simp only [Act.put, List.setIfInBounds_toArray, List.set_cons_zero, List.set_cons_succ, i64_w, i32_w]
                                        rfl
                                      refine pure_ (i := 5) (N := some 146) (v := ?_) (a' := ?_) #[true, true, true, true, true, true, false, false, false, false] rfl rfl (any_of HT_.out (by kernel_rfl)) (fun _ _ _ h => h) (Or.inl ⟨by rfl, ?_⟩) ?_ ?_
                                      rotate_left
                                      · intro w'
                                        go_simp
                                        with_reducible rfl
                                      rotate_left
                                      · simp only [Act.put, List.setIfInBounds_toArray, List.set_cons_zero, List.set_cons_succ, i64_w, i32_w]
                                        rfl
                                      refine pure_ (i := 6) (N := some 152) (v := ?_) (a' := ?_) #[true, true, true, true, true, true, true, false, false, false] rfl rfl (any_of HT_.out (by kernel_rfl)) (fun _ _ _ h => h) (Or.inl ⟨by rfl, ?_⟩) ?_ ?_
                                      rotate_left
                                      · intro w'
                                        go_simp
                                        with_reducible rfl
                                      rotate_left
                                      · simp only [Act.put, List.setIfInBounds_toArray, List.set_cons_zero, List.set_cons_succ, i64_w, i32_w]
                                        rfl
                                      refine pure_ (i := 7) (N := some 153) (v := ?_) (a' := ?_) #[true, true, true, true, true, true, true, true, false, false] rfl rfl (any_of HT_.out (by kernel_rfl)) (fun _ _ _ h => h) (Or.inl ⟨by rfl, ?_⟩) ?_ ?_
                                      rotate_left
                                      · intro w'
                                        go_simp
                                        with_reducible rfl
                                      rotate_left
                                      · simp only [Act.put, List.setIfInBounds_toArray, List.set_cons_zero, List.set_cons_succ, i64_w, i32_w]
                                        rfl
                                      refine pure_ (i := 8) (N := some 23) (v := ?_) (a' := ?_) #[true, true, true, true, true, true, true, true, true, false] rfl rfl (any_of HT_.out (by kernel_rfl)) (fun _ _ _ h => h) (Or.inl ⟨by rfl, ?_⟩) ?_ ?_
                                      rotate_left
                                      · intro w'
                                        go_simp
                                        with_reducible rfl
                                      rotate_left
                                      · simp only [Act.put, List.setIfInBounds_toArray, List.set_cons_zero, List.set_cons_succ, i64_w, i32_w]
                                        rfl
                                      refine pure_ (i := 9) (N := some 13) (v := ?_) (a' := ?_) #[true, true, true, true, true, true, true, true, true, true] rfl rfl (any_of HT_.out (by kernel_rfl)) (fun _ _ _ h => h) (Or.inl ⟨by rfl, ?_⟩) ?_ ?_
                                      rotate_left
                                      · intro w'
                                        go_simp
                                        with_reducible rfl
                                      rotate_left
                                      · simp only [Act.put, List.setIfInBounds_toArray, List.set_cons_zero, List.set_cons_succ, i64_w, i32_w]
                                        rfl
                                      refine done_ (done_of HT_.out (by kernel_rfl)) ?_
                                      try go_wp2
                                      go_ret
                                      exact ⟨by first | rfl | (simp [errW_none, errW_some] <;> rfl) | (simp only [← hji21, ← hji24, ← hji75]; first | rfl | (simp [errW_none, errW_some] <;> rfl)) | (simp [*, errW_none, errW_some] <;> rfl) | (simp [IntKind.wrap_i64, wrap64]; done), by repeat (first | (with_reducible first | exact HB.out | apply below_alloc | apply pw_below_drewN | apply below_drew1 | refine below_set ?_ GE252.out | refine below_set ?_ GE255.out) | exact HB.out)⟩
                                    · rw [if_neg c74] at H
                                      have c74b0 : (t275 == 0) = false := beq_eq_false_iff_ne.mpr c74
                                      have c74b1 : (t275 != 0) = true := bne_iff_ne.mpr c74
                                      obtain rfl := Option.some.inj H
                                      try go_wp2
                                      have n0_ := Aside0.mk (blk_drew BK252.out)
                                      have n1_ := Aside0.mk (blk_drew BK255.out)
                                      have n2_ := Aside0.mk (below_drew1 HB.out)
                                      clear BK252
                                      clear BK255
                                      clear HB
                                      have BK252 := n0_
                                      have BK255 := n1_
                                      have HB := n2_
                                      clear n0_ n1_ n2_
                                      refine start_ (n := 10) (S := fun w' => w'.cell? ⟨gb255, 0, none⟩ = some (.int .i64 0) ∧ w'.cell? ⟨gb255, 1, none⟩ = some (.int .i64 a0_1) ∧ w'.cell? ⟨gb255, 2, none⟩ = some (.int .i64 a0_2) ∧ w'.cell? ⟨gb255, 3, none⟩ = some (.int .i64 0)) (ds := []) #[false, false, false, false, false, false, false, false, false, false] (by kernel_rfl) rfl rfl ⟨(blk_cell BK255.out 0).trans rfl, (blk_cell BK255.out 1).trans rfl, (blk_cell BK255.out 2).trans rfl, (blk_cell BK255.out 3).trans rfl⟩ (fun hHeld => ?_); refine with_tabW assessorlaw52_AttemptsBest.tab17 assessorlaw52_AttemptsBest.bits17 (fun HT_ HW_ => ?_)
                                      generalize wc.drew = w80 at BK252 BK255 HB hHeld ⊢
                                      refine pure_ (i := 1) (N := some 148) (v := ?_) (a' := ?_) #[false, true, false, false, false, false, false, false, false, false] rfl rfl (any_of HT_.out (by kernel_rfl)) (fun _ _ _ h => h) (Or.inl ⟨by rfl, ?_⟩) ?_ ?_
                                      rotate_left
                                      · intro w'
                                        go_simp
                                        with_reducible rfl
                                      rotate_left
                                      · simp only [Act.put, List.setIfInBounds_toArray, List.set_cons_zero, List.set_cons_succ, i64_w, i32_w]
                                        rfl
                                      refine pure_ (i := 2) (N := some 149) (v := ?_) (a' := ?_) #[false, true, true, false, false, false, false, false, false, false] rfl rfl (any_of HT_.out (by kernel_rfl)) (fun _ _ _ h => h) (Or.inl ⟨by rfl, ?_⟩) ?_ ?_
                                      rotate_left
                                      · intro w'
                                        go_simp
                                        with_reducible rfl
                                      rotate_left
                                      · simp only [Act.put, List.setIfInBounds_toArray, List.set_cons_zero, List.set_cons_succ, i64_w, i32_w]
                                        rfl
                                      refine take_ (i := 0) (N := some 147) (v := ?_) (a' := ?_) #[true, true, true, false, false, false, false, false, false, false] rfl rfl (take_ofW HT_.out HW_.out (by kernel_rfl)) (fun _ _ _ h => h) (Or.inl ⟨by rfl, ?_⟩) hHeld ?_ ?_
                                      rotate_left
                                      · rintro w' ⟨s0, s1, s2, s3⟩
                                        go_simp
                                        with_reducible rfl
                                      rotate_left
                                      · simp only [Act.put, List.setIfInBounds_toArray, List.set_cons_zero, List.set_cons_succ, i64_w, i32_w]
                                        rfl
                                      refine one_ (i := 3) (N := some 150) #[true, true, true, true, false, false, false, false, false, false] rfl rfl (one_of HT_.out (by kernel_rfl)) (by decide) (fun K hK => ?_)
                                      refine goes_ Try.func20 (by kernel_rfl) rfl #[.slice (some ad263) l1.length c1, .int .i64 a2] (by rfl) rfl rfl (by (try simp only [List.map_toArray, List.map_cons, List.map_nil]); first | done | rfl | (simp only [List.length_drop, List.length_take]; rfl)) ?_
                                      with_reducible refine (assessorlaw52_next.calls _ _ l1 a2 t271 _ ?side1 ?side2 A72.out).mono ?_
                                      (case side1 => repeat (first | exact (Kd.C_below HR1.out HB.out) | (with_reducible refine Kd.C_alloc ?_ _) | (with_reducible refine Kd.C_drewN ?_ _) | (with_reducible refine Kd.C_drew ?_)))
                                      (case side2 => exact HC1.out)
                                      rintro e w81 ⟨v272, rfl, ho0, hb⟩
                                      refine ⟨_, rfl, ?_⟩
                                      have n0_ := Aside0.mk (Kd.R_lower ho0 (below_size (by repeat (first | (with_reducible first | exact HB.out | apply below_alloc | apply pw_below_drewN | apply below_drew1 | refine below_set ?_ GE252.out | refine below_set ?_ GE255.out) | exact HB.out))))
                                      have n1_ := Aside0.mk (blk_below (g := gb252) (o := .cells #[.int .i64 a0_0, .int .i64 a0_1, .int .i64 a0_2, .int .i64 a0_3] 23 (0, 0)) (by (with_reducible repeat (first | refine blk_drewN ?_ _ | refine blk_drew ?_ | refine blk_alloc ?_ _)); exact BK252.out) hb)
                                      have n2_ := Aside0.mk (blk_below (g := gb255) (o := .cells #[.int .i64 0, .int .i64 a0_1, .int .i64 a0_2, .int .i64 0] 23 (0, 0)) (by (with_reducible repeat (first | refine blk_drewN ?_ _ | refine blk_drew ?_ | refine blk_alloc ?_ _)); exact BK255.out) hb)
                                      have n3_ := Aside0.mk (below_step (by repeat (first | (with_reducible first | exact HB.out | apply below_alloc | apply pw_below_drewN | apply below_drew1 | refine below_set ?_ GE252.out | refine below_set ?_ GE255.out) | exact HB.out)) hb)
                                      clear BK252
                                      clear BK255
                                      clear HB
                                      have HO273 := n0_
                                      have BK252 := n1_
                                      have BK255 := n2_
                                      have HB := n3_
                                      clear n0_ n1_ n2_ n3_
                                      (try clear hb)
                                      (try clear hb2)
                                      (try clear hk)
                                      (try clear hi)
                                      (try clear ho0)
                                      obtain ⟨Ao82, co82, eo82⟩ := Kd.R_slice HO273.out
                                      (first | subst eo82 | (injection eo82 with f1_ f2_ f3_; have f4_ := f1_.symm; have f5_ := f3_.symm; clear f1_ f2_ f3_; subst f4_; subst f5_))
                                      refine hK.out _ _ ⟨(blk_cell BK255.out 0).trans rfl, (blk_cell BK255.out 1).trans rfl, (blk_cell BK255.out 2).trans rfl, (blk_cell BK255.out 3).trans rfl⟩ (fun hHeld => ?_)
                                      clear hK K
                                      refine norm_ (a' := ?_) ?_ ?_
                                      rotate_left
                                      · show Act.put _ (some 150) _ = _
                                        simp only [Act.put, List.setIfInBounds_toArray, List.set_cons_zero, List.set_cons_succ, i64_w, i32_w]
                                        rfl
                                      refine one_ (i := 4) (N := some 151) #[true, true, true, true, true, false, false, false, false, false] rfl rfl (one_of HT_.out (by kernel_rfl)) (by decide) (fun K hK => ?_)
                                      refine goes_ Try.func11 (by kernel_rfl) rfl #[.agg #[.int .i64 0, .int .i64 a0_1, .int .i64 a0_2, .int .i64 0], .slice Ao82 t271.length co82] (by rfl) rfl rfl (by (try simp only [List.map_toArray, List.map_cons, List.map_nil]); first | done | rfl | (simp only [List.length_drop, List.length_take]; rfl)) ?_
                                      with_reducible refine (attempts_Final.calls kj61 0 a0_1 a0_2 0 _ _ t271 t274 t275 _ ?side1 ?side2 A73.out).mono ?_
                                      (case side1 => repeat (first | exact (Kd.R_reads' HO273.out).2.2 | (with_reducible refine Kd.C_alloc ?_ _) | (with_reducible refine Kd.C_drewN ?_ _) | (with_reducible refine Kd.C_drew ?_)))
                                      (case side2 => exact (Kd.R_reads' HO273.out).2.1)
                                      rintro e w83 ⟨rfl, hb⟩
                                      refine ⟨_, rfl, ?_⟩
                                      have n0_ := Aside0.mk (Kd.R_below (by (with_reducible repeat (first | apply Kd.R_alloc | apply Kd.R_drewN | apply Kd.R_drew)); exact HO273.out) hb)
                                      have n1_ := Aside0.mk (blk_below (g := gb252) (o := .cells #[.int .i64 a0_0, .int .i64 a0_1, .int .i64 a0_2, .int .i64 a0_3] 23 (0, 0)) (by (with_reducible repeat (first | refine blk_drewN ?_ _ | refine blk_drew ?_ | refine blk_alloc ?_ _)); exact BK252.out) hb)
                                      have n2_ := Aside0.mk (blk_below (g := gb255) (o := .cells #[.int .i64 0, .int .i64 a0_1, .int .i64 a0_2, .int .i64 0] 23 (0, 0)) (by (with_reducible repeat (first | refine blk_drewN ?_ _ | refine blk_drew ?_ | refine blk_alloc ?_ _)); exact BK255.out) hb)
                                      have n3_ := Aside0.mk (below_step (by repeat (first | (with_reducible first | exact HB.out | apply below_alloc | apply pw_below_drewN | apply below_drew1 | refine below_set ?_ GE252.out | refine below_set ?_ GE255.out) | exact HB.out)) hb)
                                      clear HO273
                                      clear BK252
                                      clear BK255
                                      clear HB
                                      have HO273 := n0_
                                      have BK252 := n1_
                                      have BK255 := n2_
                                      have HB := n3_
                                      clear n0_ n1_ n2_ n3_
                                      (try clear hb)
                                      (try clear hb2)
                                      (try clear hk)
                                      (try clear hi)
                                      refine hK.out _ _ ⟨(blk_cell BK255.out 0).trans rfl, (blk_cell BK255.out 1).trans rfl, (blk_cell BK255.out 2).trans rfl, (blk_cell BK255.out 3).trans rfl⟩ (fun hHeld => ?_)
                                      clear hK K
                                      refine norm_ (a' := ?_) ?_ ?_
                                      rotate_left
                                      · show Act.put _ (some 151) _ = _
                                        simp only [Act.put, List.setIfInBounds_toArray, List.set_cons_zero, List.set_cons_succ, i64_w, i32_w]
                                        rfl
                                      refine pure_ (i := 5) (N := some 146) (v := ?_) (a' := ?_) #[true, true, true, true, true, true, false, false, false, false] rfl rfl (any_of HT_.out (by kernel_rfl)) (fun _ _ _ h => h) (Or.inl ⟨by rfl, ?_⟩) ?_ ?_
                                      rotate_left
                                      · intro w'
                                        go_simp
                                        with_reducible rfl
                                      rotate_left
                                      · simp only [Act.put, List.setIfInBounds_toArray, List.set_cons_zero, List.set_cons_succ, i64_w, i32_w]
                                        rfl
                                      refine pure_ (i := 6) (N := some 152) (v := ?_) (a' := ?_) #[true, true, true, true, true, true, true, false, false, false] rfl rfl (any_of HT_.out (by kernel_rfl)) (fun _ _ _ h => h) (Or.inl ⟨by rfl, ?_⟩) ?_ ?_
                                      rotate_left
                                      · intro w'
                                        go_simp
                                        with_reducible rfl
                                      rotate_left
                                      · simp only [Act.put, List.setIfInBounds_toArray, List.set_cons_zero, List.set_cons_succ, i64_w, i32_w]
                                        rfl
                                      refine pure_ (i := 7) (N := some 153) (v := ?_) (a' := ?_) #[true, true, true, true, true, true, true, true, false, false] rfl rfl (any_of HT_.out (by kernel_rfl)) (fun _ _ _ h => h) (Or.inl ⟨by rfl, ?_⟩) ?_ ?_
                                      rotate_left
                                      · intro w'
                                        go_simp
                                        with_reducible rfl
                                      rotate_left
                                      · simp only [Act.put, List.setIfInBounds_toArray, List.set_cons_zero, List.set_cons_succ, i64_w, i32_w]
                                        rfl
                                      refine pure_ (i := 8) (N := some 23) (v := ?_) (a' := ?_) #[true, true, true, true, true, true, true, true, true, false] rfl rfl (any_of HT_.out (by kernel_rfl)) (fun _ _ _ h => h) (Or.inl ⟨by rfl, ?_⟩) ?_ ?_
                                      rotate_left
                                      · intro w'
                                        go_simp
                                        with_reducible rfl
                                      rotate_left
                                      · simp only [Act.put, List.setIfInBounds_toArray, List.set_cons_zero, List.set_cons_succ, i64_w, i32_w]
                                        rfl
                                      refine pure_ (i := 9) (N := some 13) (v := ?_) (a' := ?_) #[true, true, true, true, true, true, true, true, true, true] rfl rfl (any_of HT_.out (by kernel_rfl)) (fun _ _ _ h => h) (Or.inl ⟨by rfl, ?_⟩) ?_ ?_
                                      rotate_left
                                      · intro w'
                                        go_simp
                                        with_reducible rfl
                                      rotate_left
                                      · simp only [Act.put, List.setIfInBounds_toArray, List.set_cons_zero, List.set_cons_succ, i64_w, i32_w]
                                        rfl
                                      refine done_ (done_of HT_.out (by kernel_rfl)) ?_
                                      try go_wp2
                                      go_ret
                                      exact ⟨by first | rfl | (simp [errW_none, errW_some] <;> rfl) | (simp only [← hji21, ← hji24]; first | rfl | (simp [errW_none, errW_some] <;> rfl)) | (simp [*, errW_none, errW_some] <;> rfl) | (simp [IntKind.wrap_i64, wrap64]; done), by repeat (first | (with_reducible first | exact HB.out | apply below_alloc | apply pw_below_drewN | apply below_drew1 | refine below_set ?_ GE252.out | refine below_set ?_ GE255.out) | exact HB.out)⟩
                      · rw [if_neg c29] at H
                        exact absurd H (by simp)
                    · rw [if_neg c27] at H
                      exact absurd H (by simp)
                  · rw [if_neg c26] at H
                    exact absurd H (by simp)
                · rw [if_neg c25] at H
                  exact absurd H (by simp)
              · rw [if_neg c23] at H
                exact absurd H (by simp)
            · rw [if_neg c22] at H
              exact absurd H (by simp)
  · replace c7 := Bool.eq_false_iff.mpr c7
    subst c7
    have H1 : (some false) = some r := by rw [if_neg (show ¬ (false = true) by decide)] at H; exact H
    clear H
    have H := H1
    clear H1
    obtain rfl := Option.some.inj H
    go_enter Try.func6, Try.ntmps6
    go_wp2_with (first | ((with_reducible refine gate_dst (N := 5) rfl ?_); (try (refine gate_guard (by rfl) ?_; dsimp only)); refine box_event ?hg (N := 5) ?hd (cs := #[.int .i64 a0_0, .int .i64 a0_1, .int .i64 a0_2, .int .i64 a0_3]) (t := 23) ?hr ?_; (case hd => rfl); (case hg => rfl); (case hr => first | (go_simp; done) | (go_simp; rfl)); intro gb252 hg w84 hbox hb; have n0_ := Aside0.mk (below_step (by repeat (first | (with_reducible first | exact HB.out | apply below_alloc | apply pw_below_drewN | apply below_drew1) | exact HB.out)) hb); have n1_ := Aside0.mk (hbox); have n2_ := Aside0.mk ((by rw [hg]; exact (below_size (by repeat (first | (with_reducible first | exact HB.out | apply below_alloc | apply pw_below_drewN | apply below_drew1) | exact HB.out))) : w.heap.size ≤ gb252)); have n3_ := Aside0.mk ((by rw [hg]; exact (below_size (by repeat (first | (with_reducible first | exact HB.out | apply below_alloc | apply pw_below_drewN | apply below_drew1) | exact HB.out))) : w.heap.size ≤ gb252)); clear HB; have HB := n0_; have BK252 := n1_; have GW252 := n2_; have GE252 := n3_; clear n0_ n1_ n2_ n3_; clear hb hbox hg) | ((with_reducible refine gate_callee (f := 10) rfl ?_); refine goesL_ (some 24) rfl rfl Try.func10 (by kernel_rfl) rfl #[] rfl (by (try simp only [List.map_toArray, List.map_cons, List.map_nil]); first | done | rfl | (simp only [List.length_drop, List.length_take]; rfl)) ?_; (with_reducible refine (assessorlaw52_awake.calls k  false _ A6.out).mono ?_); rintro e w85 ⟨rfl, hb⟩; refine ⟨_, rfl, ?_⟩; have n0_ := Aside0.mk (blk_below (g := gb252) (o := .cells #[.int .i64 a0_0, .int .i64 a0_1, .int .i64 a0_2, .int .i64 a0_3] 23 (0, 0)) (by (with_reducible repeat (first | refine blk_drewN ?_ _ | refine blk_drew ?_ | refine blk_alloc ?_ _)); exact BK252.out) hb); have n1_ := Aside0.mk (below_step (by repeat (first | (with_reducible first | exact HB.out | apply below_alloc | apply pw_below_drewN | apply below_drew1 | refine below_set ?_ GE252.out) | exact HB.out)) hb); clear BK252; clear HB; have BK252 := n0_; have HB := n1_; clear n0_ n1_; (try clear hb); (try clear hb2); (try clear hk); (try clear hi)))
    go_ret
    exact ⟨by first | rfl | (simp [errW_none, errW_some] <;> rfl) | (simp [*, errW_none, errW_some] <;> rfl) | (simp [IntKind.wrap_i64, wrap64]; done), by repeat (first | (with_reducible first | exact HB.out | apply below_alloc | apply pw_below_drewN | apply below_drew1 | refine below_set ?_ GE252.out) | exact HB.out)⟩

end Go.Proofs.Ytdailoccmjeceaa.PAll
