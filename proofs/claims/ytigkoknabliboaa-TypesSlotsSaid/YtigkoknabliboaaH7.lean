/- The law's own example (assessorlaw08.awake): its call returns true. Under no condition. -/
import Derived.Test.YtigkoknabliboaaHa
import Derived.Test.YtigkoknabliboaaPAllxf19
import Derived.Test.YtigkoknabliboaaPAllxf12
namespace Go.Proofs.Ytigkoknabliboaa.PAll
open Go.RowKit Go.Proofs.YtigkoknabliboaaW.PrintWords Go.Proofs.YtigkoknabliboaaW.PrintLast Go.Proofs.YtigkoknabliboaaW.PrintMore
set_option linter.unusedVariables false
set_option linter.unusedSimpArgs false

def pt : List S63 := [⟨⟨#[112, 111, 105, 110, 116]⟩, [⟨⟨#[112, 120]⟩, ⟨1, 0, ⟨#[]⟩⟩⟩, ⟨⟨#[112, 98]⟩, ⟨2, 0, ⟨#[]⟩⟩⟩]⟩]
def tx : S27 := ⟨1, 0, ⟨#[]⟩⟩
def tb : S27 := ⟨2, 0, ⟨#[]⟩⟩
def ta : S27 := ⟨3, 2, ⟨#[]⟩⟩
def tp : S27 := ⟨4, 0, ⟨#[112, 111, 105, 110, 116]⟩⟩
def vars (i j k : Int) : List S39 := [⟨⟨#[120]⟩, tb, i, 0, false, false⟩, ⟨⟨#[97]⟩, ta, j, 0, false, false⟩, ⟨⟨#[112]⟩, tp, k, 0, false, false⟩]
theorem point_f : assessorlaw08_point.f = some pt := rfl
theorem layout_f : types_Layout.f 10 pt (vars 0 0 0) = some (vars 0 1 3, 5) := by kernel_rfl
theorem scalars_f : types_Scalars.f pt [ta, tp] = some [tx, tx, tx, tb] := by kernel_rfl
theorem equal_f : assessorref08_Equal.f 10 [tx, tx, tx, tb] [tx, tx, tx, tb] = some true := by decide +kernel
theorem member_f : types_Member.f pt ⟨#[112, 98]⟩ = some (⟨#[112, 111, 105, 110, 116]⟩, 1, 2, 0, ⟨#[]⟩, true) := by decide +kernel
theorem format_f : types_Format.f 3 2 ⟨#[]⟩ = some ⟨#[105, 110, 116, 91, 50, 93]⟩ := by decide +kernel

theorem point' (W : World) : Calls Try.prog 31 #[] W fun e w' => ∃ (A : Option Addr) (c : Nat), e = .returned (.slice A pt.length c) ∧ pt.length ≤ c ∧ Kd.C k63 w' A pt.length pt ∧ Below W.heap.size W w' := by
  refine (assessorlaw08_point.calls pt W point_f).mono ?_
  rintro e w' ⟨v, rfl, hN, hb⟩
  obtain ⟨A, c, rfl, hl, hC⟩ := Kd.N_reads hN
  exact ⟨A, c, rfl, hl, hC, hb⟩
def lit39 : List Value := [.string ⟨#[120]⟩, .int .i64 2, .int .i64 0, .string ⟨#[]⟩, .int .i64 0, .int .i64 0, .bool false, .bool false, .string ⟨#[97]⟩, .int .i64 3, .int .i64 2, .string ⟨#[]⟩, .int .i64 0, .int .i64 0, .bool false, .bool false,
  .string ⟨#[112]⟩, .int .i64 4, .int .i64 0, .string ⟨#[112, 111, 105, 110, 116]⟩, .int .i64 0, .int .i64 0, .bool false, .bool false]
theorem reads_lit {α : Type} (d : Kd α) (W : World) (g : Nat) (t : TypeId) (L : List Value) (xs : List α) (hg : W.heap[g]? = some (.cells L.toArray t (0, 0))) (hr : Reps (d.K W) d.sz xs L) (hlen : xs.length ≤ 9223372036854775807) (hs : 0 < d.sz) :
    Kd.C d W (some ⟨g, 0, none⟩) xs.length xs := by
  refine ⟨rfl, hlen, fun _ => ⟨_, rfl, fun j p hj => ?_⟩⟩
  refine ⟨_, d.K_len (hr.2 j p hj), hr.2 j p hj, fun i u hi => ?_⟩
  have hi2 := (List.getElem?_eq_some_iff.1 hi).1
  rw [d.K_len (hr.2 j p hj)] at hi2
  have e : (⟨g, 0, none⟩ : Addr).add (j * d.sz + i) = ⟨g, j * d.sz + i, none⟩ := by unfold Addr.add; split <;> simp_all
  rw [e, blk_cell hg]
  rw [List.getElem?_take_of_lt hi2, List.getElem?_drop] at hi
  simpa using hi
theorem reps39 (W : World) : Reps (k39.K W) k39.sz (vars 0 0 0) lit39 := by
  have h1 := Reps.snoc (size := k39.sz) (Reps.none (k39.K W) k39.sz) (k39_mk W (⟨⟨#[120]⟩, tb, 0, 0, false, false⟩ : S39)) rfl
  have h2 := Reps.snoc h1 (k39_mk W (⟨⟨#[97]⟩, ta, 0, 0, false, false⟩ : S39)) rfl
  have h3 := Reps.snoc h2 (k39_mk W (⟨⟨#[112]⟩, tp, 0, 0, false, false⟩ : S39)) rfl
  exact h3
theorem vars_here (W : World) : Kd.C k39 (W.alloc (.cells #[.string ⟨#[120]⟩, .int .i64 2, .int .i64 0, .string ⟨#[]⟩, .int .i64 0, .int .i64 0, .bool false, .bool false, .string ⟨#[97]⟩, .int .i64 3, .int .i64 2, .string ⟨#[]⟩, .int .i64 0, .int .i64 0, .bool false, .bool false, .string ⟨#[112]⟩, .int .i64 4, .int .i64 0, .string ⟨#[112, 111, 105, 110, 116]⟩, .int .i64 0, .int .i64 0, .bool false, .bool false] 39)) (some ⟨W.heap.size, 0, none⟩) 3 (vars 0 0 0) := reads_lit k39 _ _ 39 lit39 (vars 0 0 0) (heap_alloc_new W _) (reps39 _) (by decide) (by decide)
theorem layout' (W : World) (A0 : Option Addr) (c0 : Nat) (A1 : Option Addr) (hr0 : Kd.C k63 W A0 pt.length pt) (hc0 : pt.length ≤ c0) (hr1 : Kd.C k39 W A1 3 (vars 0 0 0)) :
    Calls Try.prog 19 #[.slice A0 pt.length c0, .slice A1 3 3] W fun e w' => ∃ (A : Option Addr) (c : Nat), e = .returned (.tuple #[.slice A 3 c, .int .i64 5]) ∧ Kd.C k39 w' A 3 (vars 0 1 3) ∧ Below W.heap.size W w' := by
  refine (types_Layout.calls 10 A0 c0 pt A1 3 (vars 0 0 0) (vars 0 1 3) 5 W hr0 hc0 hr1 (Nat.le_refl _) layout_f).mono ?_
  rintro e w' ⟨v, rfl, hR, hb⟩
  obtain ⟨A, c, rfl, hl, hC⟩ := Kd.R_reads hR
  exact ⟨A, c, rfl, hC, hb⟩

def lit2 : List Value := [.int .i64 3, .int .i64 2, .string ⟨#[]⟩, .int .i64 4, .int .i64 0, .string ⟨#[112, 111, 105, 110, 116]⟩]
def lit4 : List Value := [.int .i64 1, .int .i64 0, .string ⟨#[]⟩, .int .i64 1, .int .i64 0, .string ⟨#[]⟩, .int .i64 1, .int .i64 0, .string ⟨#[]⟩, .int .i64 2, .int .i64 0, .string ⟨#[]⟩]
theorem reps2 (W : World) : Reps (k27.K W) k27.sz [ta, tp] lit2 := Reps.snoc (Reps.snoc (size := k27.sz) (Reps.none (k27.K W) k27.sz) (k27_mk W ta) rfl) (k27_mk W tp) rfl
theorem reps4 (W : World) : Reps (k27.K W) k27.sz [tx, tx, tx, tb] lit4 := Reps.snoc (Reps.snoc (Reps.snoc (Reps.snoc (size := k27.sz) (Reps.none (k27.K W) k27.sz) (k27_mk W tx) rfl) (k27_mk W tx) rfl) (k27_mk W tx) rfl) (k27_mk W tb) rfl
theorem c2 (W : World) (g : Nat) (h : W.heap[g]? = some (.cells #[.int .i64 3, .int .i64 2, .string ⟨#[]⟩, .int .i64 4, .int .i64 0, .string ⟨#[112, 111, 105, 110, 116]⟩] 27 (0, 0))) : Kd.C k27 W (some ⟨g, 0, none⟩) 2 [ta, tp] := reads_lit k27 W g 27 lit2 [ta, tp] h (reps2 W) (by decide) (by decide)
theorem c4 (W : World) (g : Nat) (h : W.heap[g]? = some (.cells #[.int .i64 1, .int .i64 0, .string ⟨#[]⟩, .int .i64 1, .int .i64 0, .string ⟨#[]⟩, .int .i64 1, .int .i64 0, .string ⟨#[]⟩, .int .i64 2, .int .i64 0, .string ⟨#[]⟩] 27 (0, 0))) : Kd.C k27 W (some ⟨g, 0, none⟩) 4 [tx, tx, tx, tb] := reads_lit k27 W g 27 lit4 [tx, tx, tx, tb] h (reps4 W) (by decide) (by decide)
theorem c2h (W : World) (g : Nat) (hg : g = W.heap.size) : Kd.C k27 (W.alloc (.cells #[.int .i64 3, .int .i64 2, .string ⟨#[]⟩, .int .i64 4, .int .i64 0, .string ⟨#[112, 111, 105, 110, 116]⟩] 27)) (some ⟨g, 0, none⟩) 2 [ta, tp] := c2 _ _ (by rw [hg]; exact heap_alloc_new W _)
theorem c4h (W : World) (g : Nat) (hg : g = W.heap.size) : Kd.C k27 (W.alloc (.cells #[.int .i64 1, .int .i64 0, .string ⟨#[]⟩, .int .i64 1, .int .i64 0, .string ⟨#[]⟩, .int .i64 1, .int .i64 0, .string ⟨#[]⟩, .int .i64 2, .int .i64 0, .string ⟨#[]⟩] 27)) (some ⟨g, 0, none⟩) 4 [tx, tx, tx, tb] := c4 _ _ (by rw [hg]; exact heap_alloc_new W _)
theorem C_alloc {α : Type} {k : Kd α} {W : World} {a : Option Addr} {n : Nat} {l : List α} (h : Kd.C k W a n l) (o : Obj) : Kd.C k (W.alloc o) a n l := Kd.C_below h ((Below.refl _ _).alloc (Nat.le_refl _) _)
theorem ba {w W : World} (h : Below w.heap.size w W) (o : Obj) : Below w.heap.size w (W.alloc o) := h.alloc h.size o
theorem bd {w W : World} (h : Below w.heap.size w W) : Below w.heap.size w W.drew := h.drew
theorem C_drew {α : Type} {k : Kd α} {W : World} {a : Option Addr} {n : Nat} {l : List α} (h : Kd.C k W a n l) : Kd.C k W.drew a n l := Kd.C_below h ((Below.refl _ _).drew)
theorem trans2 {w W w1 : World} (h2 : Below W.heap.size W w1) (h : Below w.heap.size w W) : Below w.heap.size w w1 := h.trans (h2.mono h.size)
theorem scalars' (W : World) (A0 : Option Addr) (c0 : Nat) (A1 : Option Addr) (hr0 : Kd.C k63 W A0 pt.length pt) (hc0 : pt.length ≤ c0) (hr1 : Kd.C k27 W A1 2 [ta, tp]) :
    Calls Try.prog 17 #[.slice A0 pt.length c0, .slice A1 2 2] W fun e w' => ∃ (A : Option Addr) (c : Nat), e = .returned (.slice A 4 c) ∧ 4 ≤ c ∧ Kd.C k27 w' A 4 [tx, tx, tx, tb] ∧ Below W.heap.size W w' := by
  refine (types_Scalars.calls A0 c0 pt A1 2 [ta, tp] [tx, tx, tx, tb] W hr0 hc0 hr1 (Nat.le_refl _) scalars_f).mono ?_
  rintro e w' ⟨v, rfl, hR, hb⟩
  obtain ⟨A, c, rfl, hl, hC⟩ := Kd.R_reads hR
  exact ⟨A, c, rfl, hl, hC, hb⟩
theorem equal' (W : World) (A0 : Option Addr) (c0 : Nat) (A1 : Option Addr) (hr0 : Kd.C k27 W A0 4 [tx, tx, tx, tb]) (hc0 : 4 ≤ c0) (hr1 : Kd.C k27 W A1 4 [tx, tx, tx, tb]) :
    Calls Try.prog 16 #[.slice A0 4 c0, .slice A1 4 4] W fun e w' => e = .returned (.bool true) ∧ Below W.heap.size W w' := by
  refine (assessorref08_Equal.calls 10 A0 c0 [tx, tx, tx, tb] A1 4 [tx, tx, tx, tb] true W hr0 hc0 hr1 (Nat.le_refl _) equal_f).mono ?_
  rintro e w' ⟨rfl, ⟨n, rfl⟩⟩
  exact ⟨rfl, pw_below_drewN (Below.refl _ _) n⟩
theorem format' (W : World) : Calls Try.prog 12 #[.agg #[.int .i64 3, .int .i64 2, .string ⟨#[]⟩]] W fun e w' => e = .returned (.string ⟨#[105, 110, 116, 91, 50, 93]⟩) ∧ Below W.heap.size W w' := types_Format.calls 3 2 ⟨#[]⟩ _ W format_f
theorem four (w : World) (A B C D : Array Value) : ((((w.alloc (.cells A 27)).alloc (.cells B 27)).alloc (.cells C 27)).alloc (.cells D 27)).heap[w.heap.size]? = some (.cells A 27 (0, 0)) ∧ ((((w.alloc (.cells A 27)).alloc (.cells B 27)).alloc (.cells C 27)).alloc (.cells D 27)).heap[w.heap.size + 1]? = some (.cells B 27 (0, 0)) ∧
    ((((w.alloc (.cells A 27)).alloc (.cells B 27)).alloc (.cells C 27)).alloc (.cells D 27)).heap[w.heap.size + 1 + 1]? = some (.cells C 27 (0, 0)) ∧ ((((w.alloc (.cells A 27)).alloc (.cells B 27)).alloc (.cells C 27)).alloc (.cells D 27)).heap[w.heap.size + 1 + 1 + 1]? = some (.cells D 27 (0, 0)) := by
  refine ⟨?_, ?_, ?_, ?_⟩
  · rw [Below.heap_alloc _ _ _ (by simp only [World.size_alloc]; omega), Below.heap_alloc _ _ _ (by simp only [World.size_alloc]; omega), Below.heap_alloc _ _ _ (by simp only [World.size_alloc]; omega)]
    exact heap_alloc_new w _
  · rw [Below.heap_alloc _ _ _ (by simp only [World.size_alloc]; omega), Below.heap_alloc _ _ _ (by simp only [World.size_alloc]; omega)]
    have := heap_alloc_new (w.alloc (.cells A 27)) (.cells B 27)
    rwa [World.size_alloc] at this
  · rw [Below.heap_alloc _ _ _ (by simp only [World.size_alloc]; omega)]
    have := heap_alloc_new ((w.alloc (.cells A 27)).alloc (.cells B 27)) (.cells C 27)
    rwa [World.size_alloc, World.size_alloc] at this
  · have := heap_alloc_new (((w.alloc (.cells A 27)).alloc (.cells B 27)).alloc (.cells C 27)) (.cells D 27)
    rwa [World.size_alloc, World.size_alloc, World.size_alloc] at this
def awake_T5 : Bool × List (List Nat × List Nat) := (true, [([], []), ([], []), ([], []), ([1, 2], [1, 2]), ([0, 3, 0], [0, 3]), ([], []), ([], []), ([], []), ([], []), ([5, 6, 7, 8], [5, 6, 7, 8]), ([4, 9, 4], [4, 9]), ([10, 10], [10]), ([11], [11]), ([12, 11], [11, 12]), ([13, 11], [11, 13]), ([11, 14], [11, 14]), ([15, 11], [15]), ([16], [16]), ([17, 16], [16, 17]), ([18, 16], [16, 18]), ([19, 16], [16, 19]), ([20, 16], [16, 20]), ([16, 21], [16, 21]), ([22, 16], [22]), ([23], [23]), ([24, 23], [23, 24]), ([25, 23], [23, 25]), ([26, 23], [23, 26]), ([27, 23], [23, 27]), ([23, 28], [23, 28]), ([29, 23], [29]), ([30], [30]), ([31, 30], [30, 31]), ([32, 30], [30, 32]), ([33, 30], [30, 33]), ([34, 30], [30, 34]), ([30, 35], [30, 35]), ([36, 30], [36]), ([37], [37]), ([38, 37], [37, 38]), ([37, 39], [37, 39]), ([40, 37], [40]), ([41], [41]), ([42, 41], [41, 42]), ([41, 43], [41, 43]), ([44, 41], [44]), ([45], [45]), ([46, 45], [45, 46]), ([45, 47], [45, 47]), ([48, 45], [48]), ([49], [49]), ([49], [49]), ([50, 51, 49], [49, 50, 51]), ([49, 52], [49, 52]), ([53, 49], [53]), ([54], [54]), ([54, 55], [54, 55]), ([56, 54], [56]), ([57], [57]), ([58, 57, 57], [57, 58]), ([59, 57], [57, 59]), ([57, 60], [57, 60]), ([61, 59, 0, 1, 2, 3, 4, 5, 6, 7, 8, 9, 10, 11, 12, 13, 14, 15, 16, 17, 18, 19, 20, 21, 22, 23, 24, 25, 26, 27, 28, 29, 30, 31, 32, 33, 34, 35, 36, 37, 38, 39, 40, 41, 42, 43, 44, 45, 46, 47, 48, 49, 50, 51, 52, 53, 54, 55, 56, 57, 58, 59, 60, 61], [61])])
def awake_B5 : List Nat := [0, 0, 0, 6, 15, 0, 0, 0, 0, 480, 1023, 2047, 4095, 8191, 16383, 32767, 65535, 131071, 262143, 524287, 1048575, 2097151, 4194303, 8388607, 16777215, 33554431, 67108863, 134217727, 268435455, 536870911, 1073741823, 2147483647, 4294967295, 8589934591, 17179869183, 34359738367, 68719476735, 137438953471, 274877906943, 549755813887, 1099511627775, 2199023255551, 4398046511103, 8796093022207, 17592186044415, 35184372088831, 70368744177663, 140737488355327, 281474976710655, 562949953421311, 1125899906842623, 1125899906842623, 4503599627370495, 9007199254740991, 18014398509481983, 36028797018963967, 72057594037927935, 144115188075855871, 288230376151711743, 576460752303423487, 1152921504606846975, 2305843009213693951, 4611686018427387903]
theorem awake_tab5 : rtab .any (opsOf Try.f9 5) = awake_T5 := by kernel_rfl
theorem awake_bits5 : waitsOk awake_T5.2 awake_B5 = true := by kernel_rfl
theorem step_lit {P : Program} {ops : Array Oper} {o : Oper} {a : Act} {W : World} {K : Act → World → Prop} {Q : Exit → Act → World → Prop} {E : Prop} (n : Nat) (L : Array Value) (t : TypeId) (hgd : o.guard = none)
    (hrun : (execOp a.eval o).run P W = .ok (.value (.slice (some ⟨W.heap.size, 0, none⟩) n n)) (W.alloc (.cells L t)))
    (h : ∀ g w1, Aside0 (w1.heap[g]? = some (.cells L t (0, 0))) → Below W.heap.size W w1 → K (a.put o.dst (.slice (some ⟨g, 0, none⟩) n n)) w1) : if Region.wanted o (yielded ops a.tmps) = true then Oper.wp P o a W K Q else E := by
  have hw : Region.wanted o (yielded ops a.tmps) = true := by simp [Region.wanted, hgd]
  rw [if_pos hw]
  unfold Oper.wp
  rw [hrun]
  exact h _ _ ⟨heap_alloc_new W _⟩ ((Below.refl _ _).alloc (Nat.le_refl _) _)
def assessorlaw08_awake.f : Option Bool := some true
set_option maxHeartbeats 8000000 in
set_option maxRecDepth 100000 in
theorem assessorlaw08_awake.calls (r : Bool) (w : World) (h : assessorlaw08_awake.f = some r) : Calls Try.prog 9 #[] w fun e w' => e = .returned (.bool r) ∧ Below w.heap.size w w' := by
  unfold assessorlaw08_awake.f at h
  obtain rfl := Option.some.inj h
  clear h
  go_enter Try.func9, Try.ntmps9
  go_upto_region 3 with fail
  generalize hE : World.alloc _ (Obj.cells #[Value.int IntKind.i64 4, Value.int IntKind.i64 0, Value.string ⟨#[112, 111, 105, 110, 116]⟩] 27) = w0
  have hB0 : Aside0 (Below w.heap.size w w0) := ⟨by rw [← hE]; exact (((((Below.refl _ _).alloc (Nat.le_refl _) _).alloc (by simp) _).alloc (by simp; omega) _).alloc (by simp; omega) _)⟩
  have hz0 : w0.heap.size = w.heap.size + 4 := by rw [← hE]; simp
  have hF := four w #[.int .i64 1, .int .i64 0, .string ⟨#[]⟩] #[.int .i64 2, .int .i64 0, .string ⟨#[]⟩] #[.int .i64 3, .int .i64 2, .string ⟨#[]⟩] #[.int .i64 4, .int .i64 0, .string ⟨#[112, 111, 105, 110, 116]⟩]
  rw [hE] at hF
  have a0 : w0.cell? ⟨w.heap.size, 0, none⟩ = some (.int .i64 1) := (blk_cell hF.1 0).trans rfl
  have a1 : w0.cell? ⟨w.heap.size, 1, none⟩ = some (.int .i64 0) := (blk_cell hF.1 1).trans rfl
  have a2 : w0.cell? ⟨w.heap.size, 2, none⟩ = some (.string ⟨#[]⟩) := (blk_cell hF.1 2).trans rfl
  have b0 : w0.cell? ⟨w.heap.size + 1, 0, none⟩ = some (.int .i64 2) := (blk_cell hF.2.1 0).trans rfl
  have b1 : w0.cell? ⟨w.heap.size + 1, 1, none⟩ = some (.int .i64 0) := (blk_cell hF.2.1 1).trans rfl
  have b2 : w0.cell? ⟨w.heap.size + 1, 2, none⟩ = some (.string ⟨#[]⟩) := (blk_cell hF.2.1 2).trans rfl
  have c0 : w0.cell? ⟨w.heap.size + 1 + 1, 0, none⟩ = some (.int .i64 3) := (blk_cell hF.2.2.1 0).trans rfl
  have c1 : w0.cell? ⟨w.heap.size + 1 + 1, 1, none⟩ = some (.int .i64 2) := (blk_cell hF.2.2.1 1).trans rfl
  have c2 : w0.cell? ⟨w.heap.size + 1 + 1, 2, none⟩ = some (.string ⟨#[]⟩) := (blk_cell hF.2.2.1 2).trans rfl
  have d0 : w0.cell? ⟨w.heap.size + 1 + 1 + 1, 0, none⟩ = some (.int .i64 4) := (blk_cell hF.2.2.2 0).trans rfl
  have d1 : w0.cell? ⟨w.heap.size + 1 + 1 + 1, 1, none⟩ = some (.int .i64 0) := (blk_cell hF.2.2.2 1).trans rfl
  have d2 : w0.cell? ⟨w.heap.size + 1 + 1 + 1, 2, none⟩ = some (.string ⟨#[112, 111, 105, 110, 116]⟩) := (blk_cell hF.2.2.2 2).trans rfl
  have hz3 : w.heap.size + 1 + 1 + 1 < w0.heap.size := by omega
  clear hE hF hz0
  have XA : Aside0 (∀ w1, Below w0.drew.heap.size w0.drew w1 → Below w0.heap.size w0 w1) := ⟨fun w1 h => ((Below.refl _ _).drew).trans h⟩
  have XB : Aside0 (∀ w1, Below (w0.alloc (.cells #[.string ⟨#[120]⟩, .int .i64 2, .int .i64 0, .string ⟨#[]⟩, .int .i64 0, .int .i64 0, .bool false, .bool false, .string ⟨#[97]⟩, .int .i64 3, .int .i64 2, .string ⟨#[]⟩, .int .i64 0, .int .i64 0, .bool false, .bool false, .string ⟨#[112]⟩, .int .i64 4, .int .i64 0, .string ⟨#[112, 111, 105, 110, 116]⟩, .int .i64 0, .int .i64 0, .bool false, .bool false] 39)).drew.heap.size (w0.alloc (.cells #[.string ⟨#[120]⟩, .int .i64 2, .int .i64 0, .string ⟨#[]⟩, .int .i64 0, .int .i64 0, .bool false, .bool false, .string ⟨#[97]⟩, .int .i64 3, .int .i64 2, .string ⟨#[]⟩, .int .i64 0, .int .i64 0, .bool false, .bool false, .string ⟨#[112]⟩, .int .i64 4, .int .i64 0, .string ⟨#[112, 111, 105, 110, 116]⟩, .int .i64 0, .int .i64 0, .bool false, .bool false] 39)).drew w1 → Below w0.heap.size w0 w1) := ⟨fun w1 h => (((Below.refl _ _).alloc (Nat.le_refl _) _).drew).trans (h.mono (by simp [World.drew]))⟩
  have XC : Aside0 (∀ w1 w2, Below w0.heap.size w0 w1 → Below w1.heap.size w1 w2 → Below w0.heap.size w0 w2) := ⟨fun w1 w2 h1 h2 => h1.trans (h2.mono h1.size)⟩
  have XD : Aside0 (∀ w1 w2, Below w0.heap.size w0 w1 → Below (w1.alloc (.cells #[.string ⟨#[120]⟩, .int .i64 2, .int .i64 0, .string ⟨#[]⟩, .int .i64 0, .int .i64 0, .bool false, .bool false, .string ⟨#[97]⟩, .int .i64 3, .int .i64 2, .string ⟨#[]⟩, .int .i64 0, .int .i64 0, .bool false, .bool false, .string ⟨#[112]⟩, .int .i64 4, .int .i64 0, .string ⟨#[112, 111, 105, 110, 116]⟩, .int .i64 0, .int .i64 0, .bool false, .bool false] 39)).heap.size (w1.alloc (.cells #[.string ⟨#[120]⟩, .int .i64 2, .int .i64 0, .string ⟨#[]⟩, .int .i64 0, .int .i64 0, .bool false, .bool false, .string ⟨#[97]⟩, .int .i64 3, .int .i64 2, .string ⟨#[]⟩, .int .i64 0, .int .i64 0, .bool false, .bool false, .string ⟨#[112]⟩, .int .i64 4, .int .i64 0, .string ⟨#[112, 111, 105, 110, 116]⟩, .int .i64 0, .int .i64 0, .bool false, .bool false] 39)) w2 → Below w0.heap.size w0 w2) := ⟨fun w1 w2 h1 h2 => h1.trans ((((Below.refl _ _).alloc (Nat.le_refl _) _).trans (h2.mono (by simp))).mono h1.size)⟩
  have XE : Aside0 (Kd.C k39 (w0.alloc (.cells #[.string ⟨#[120]⟩, .int .i64 2, .int .i64 0, .string ⟨#[]⟩, .int .i64 0, .int .i64 0, .bool false, .bool false, .string ⟨#[97]⟩, .int .i64 3, .int .i64 2, .string ⟨#[]⟩, .int .i64 0, .int .i64 0, .bool false, .bool false, .string ⟨#[112]⟩, .int .i64 4, .int .i64 0, .string ⟨#[112, 111, 105, 110, 116]⟩, .int .i64 0, .int .i64 0, .bool false, .bool false] 39)).drew (some ⟨w0.heap.size, 0, none⟩) 3 (vars 0 0 0)) := ⟨vars_here w0⟩
  go_cut [5, 6] (fun s5 s6 wx => ∃ (A : Option Addr) (c : Nat), s5 = .slice A 3 c ∧ s6 = .int .i64 5 ∧ Aside0 (Kd.C k39 wx A 3 (vars 0 1 3)) ∧ Aside0 (Below w0.heap.size w0 wx))
  case first =>
    go_region_held3 (fun w' => w'.cell? ⟨w.heap.size + 1, 0, none⟩ = some (.int .i64 2) ∧ w'.cell? ⟨w.heap.size + 1, 1, none⟩ = some (.int .i64 0) ∧ w'.cell? ⟨w.heap.size + 1, 2, none⟩ = some (.string ⟨#[]⟩) ∧ w'.cell? ⟨w.heap.size + 1 + 1, 0, none⟩ = some (.int .i64 3) ∧ w'.cell? ⟨w.heap.size + 1 + 1, 1, none⟩ = some (.int .i64 2) ∧ w'.cell? ⟨w.heap.size + 1 + 1, 2, none⟩ = some (.string ⟨#[]⟩) ∧ w'.cell? ⟨w.heap.size + 1 + 1 + 1, 0, none⟩ = some (.int .i64 4) ∧ w'.cell? ⟨w.heap.size + 1 + 1 + 1, 1, none⟩ = some (.int .i64 0) ∧ w'.cell? ⟨w.heap.size + 1 + 1 + 1, 2, none⟩ = some (.string ⟨#[112, 111, 105, 110, 116]⟩))
      (first | exact ⟨pw_cell_below HB24.out b0, pw_cell_below HB24.out b1, pw_cell_below HB24.out b2, pw_cell_below HB24.out c0, pw_cell_below HB24.out c1, pw_cell_below HB24.out c2, pw_cell_below HB24.out d0, pw_cell_below HB24.out d1, pw_cell_below HB24.out d2⟩ | exact ⟨pw_cell_below HB16.out b0, pw_cell_below HB16.out b1, pw_cell_below HB16.out b2, pw_cell_below HB16.out c0, pw_cell_below HB16.out c1, pw_cell_below HB16.out c2, pw_cell_below HB16.out d0, pw_cell_below HB16.out d1, pw_cell_below HB16.out d2⟩ | go_keep)
      (first
        | (go_at_call 31; refine (point' _).mono ?_; rintro e w16 ⟨A16, c16, rfl, hl16, hC16, hb16⟩; have HL16 := Aside0.mk hl16; have HC16 := Aside0.mk hC16; (first | (with_reducible have HB16 := Aside0.mk (XA.out _ hb16)) | (with_reducible have HB16 := Aside0.mk (XB.out _ hb16))); have hB16 := Aside0.mk hb16; clear hl16 hC16 hb16)
        | (go_at_call 19; (first | (with_reducible refine (layout' _ _ _ _ (Kd.C_below HC16.out ((Below.refl _ _).alloc (Nat.le_refl _) _)) HL16.out (vars_here _)).mono ?_) | (with_reducible refine (layout' _ _ _ _ HC16.out HL16.out (Kd.C_below XE.out hB16.out)).mono ?_)); rintro e w24 ⟨A24, c24, rfl, hC24, hb24⟩; have HC24 := Aside0.mk hC24; (first | (with_reducible have HB24 := Aside0.mk (XC.out _ _ HB16.out hb24)) | (with_reducible have HB24 := Aside0.mk (XD.out _ _ HB16.out hb24))); clear hC24 hb24))
    all_goals (go_wp2_with fail; go_meet; exact ⟨A24, c24, rfl, rfl, HC24, HB24⟩)
  case rest =>
    obtain ⟨A, c, rfl, rfl, HV, HB⟩ := hcut
    clear XA XB XC XD XE
    go_upto_region 5 with (first
      | (go_at_call 31; refine (point' _).mono ?_; rintro e w16 ⟨A16, c16, rfl, hl16, hC16, hb16⟩; have HL16 := Aside0.mk hl16; have HC16 := Aside0.mk hC16; have HB16 := Aside0.mk hb16; clear hl16 hC16 hb16)
      | (go_at_call 32; refine (types_Member.calls A16 c16 pt _ _ _ _ _ _ _ _ HC16.out HL16.out member_f).mono ?_; rintro e w32 ⟨rfl, hb32⟩; have HB32 := Aside0.mk hb32; clear hb32))
    have hb9 : w32.heap.size < (w32.alloc (.cells #[.int .i64 2, .int .i64 0, .string ⟨#[]⟩] 27)).heap.size := by simp
    obtain ⟨w5, hw5⟩ : ∃ w5, w5 = w32.alloc (.cells #[.int .i64 2, .int .i64 0, .string ⟨#[]⟩] 27) := ⟨_, rfl⟩
    rw [← hw5]
    obtain ⟨b9, hb9'⟩ : ∃ b9, b9 = w32.heap.size := ⟨_, rfl⟩
    rw [← hb9']
    have HB5 : Aside0 (Below w0.heap.size w0 w5) := ⟨by rw [hw5]; exact (HB.out.trans ((HB16.out.trans (HB32.out.mono HB16.out.size)).mono HB.out.size)).alloc (Nat.le_trans HB.out.size (Nat.le_trans HB16.out.size HB32.out.size)) _⟩
    have HV5 : Aside0 (Kd.C k39 w5 A 3 (vars 0 1 3)) := ⟨by rw [hw5]; exact Kd.C_below HV.out ((HB16.out.trans (HB32.out.mono HB16.out.size)).alloc (Nat.le_trans HB16.out.size HB32.out.size) _)⟩
    have he : w5.heap[b9]? = some (.cells #[.int .i64 2, .int .i64 0, .string ⟨#[]⟩] 27 (0, 0)) := by rw [hw5, hb9']; exact heap_alloc_new w32 _
    obtain ⟨ad, e0, hs0, ha0, ha1, ha2, ha3, ha4, ha5, ha6⟩ := at_T39 HV5.out 0 (by omega) (by omega)
    obtain ⟨ad', e0', hs0', hb0, hb1, hb2, hb3, hb4, hb5, hb6⟩ := at_T39 HV5.out 1 (by omega) (by omega)
    obtain ⟨ad'', e0'', hs0'', hd0, hd1, hd2, hd3, hd4, hd5, hd6⟩ := at_T39 HV5.out 2 (by omega) (by omega)
    obtain rfl := e0
    obtain rfl := Option.some.inj e0'
    obtain rfl := Option.some.inj e0''
    have hdrew : w5.drew.heap = w5.heap := rfl
    have HS : Aside0 (∀ w', Below w5.heap.size w5 w' → w'.cell? ⟨w.heap.size, 0, none⟩ = some (.int .i64 1) ∧ w'.cell? ⟨w.heap.size, 1, none⟩ = some (.int .i64 0) ∧ w'.cell? ⟨w.heap.size, 2, none⟩ = some (.string ⟨#[]⟩) ∧ w'.cell? ⟨w.heap.size + 1, 0, none⟩ = some (.int .i64 2) ∧ w'.cell? ⟨w.heap.size + 1, 1, none⟩ = some (.int .i64 0) ∧ w'.cell? ⟨w.heap.size + 1, 2, none⟩ = some (.string ⟨#[]⟩) ∧ w'.cell? ⟨w.heap.size + 1 + 1, 0, none⟩ = some (.int .i64 3) ∧ w'.cell? ⟨w.heap.size + 1 + 1, 1, none⟩ = some (.int .i64 2) ∧ w'.cell? ⟨w.heap.size + 1 + 1, 2, none⟩ = some (.string ⟨#[]⟩) ∧ w'.cell? ⟨w.heap.size + 1 + 1 + 1, 0, none⟩ = some (.int .i64 4) ∧ w'.cell? ⟨w.heap.size + 1 + 1 + 1, 1, none⟩ = some (.int .i64 0) ∧ w'.cell? ⟨w.heap.size + 1 + 1 + 1, 2, none⟩ = some (.string ⟨#[112, 111, 105, 110, 116]⟩) ∧ w'.cell? ⟨b9, 0, none⟩ = some (.int .i64 2) ∧ w'.cell? ⟨b9, 1, none⟩ = some (.int .i64 0) ∧ w'.cell? ⟨b9, 2, none⟩ = some (.string ⟨#[]⟩) ∧ w'.cell? ⟨ad.block, ad.off + 4, none⟩ = some (.int .i64 0) ∧ w'.cell? ⟨ad.block, ad.off + 8 + 4, none⟩ = some (.int .i64 1) ∧ w'.cell? ⟨ad.block, ad.off + 16 + 4, none⟩ = some (.int .i64 3)) := ⟨fun w' hw' => ⟨pw_cell_below (trans2 hw' HB5.out) a0, pw_cell_below (trans2 hw' HB5.out) a1, pw_cell_below (trans2 hw' HB5.out) a2, pw_cell_below (trans2 hw' HB5.out) b0, pw_cell_below (trans2 hw' HB5.out) b1, pw_cell_below (trans2 hw' HB5.out) b2, pw_cell_below (trans2 hw' HB5.out) c0, pw_cell_below (trans2 hw' HB5.out) c1, pw_cell_below (trans2 hw' HB5.out) c2, pw_cell_below (trans2 hw' HB5.out) d0, pw_cell_below (trans2 hw' HB5.out) d1, pw_cell_below (trans2 hw' HB5.out) d2, pw_cell_below hw' ((blk_cell he 0).trans rfl), pw_cell_below hw' ((blk_cell he 1).trans rfl), pw_cell_below hw' ((blk_cell he 2).trans rfl), pw_cell_below hw' ha3, pw_cell_below hw' hb3, pw_cell_below hw' hd3⟩⟩
    have HW : Aside0 (Below w.heap.size w w5) := ⟨trans2 HB5.out hB0.out⟩
    have HB0_ : Aside0 (Below w5.heap.size w5 w5.drew) := ⟨(Below.refl _ _).drew⟩
    clear ha0 ha1 ha2 ha3 ha4 ha5 ha6 hb0 hb1 hb2 hb3 hb4 hb5 hb6 hd0 hd1 hd2 hd3 hd4 hd5 hd6 he hw5 hb9 hb9' HB5 HV5 HB HV HB16 HB32 a0 a1 a2 b0 b1 b2 c0 c1 c2 d0 d1 d2 hdrew hs0 hs0' hs0'' e0' e0''
    refine start_ (n := 63) (S := fun w' => Below w5.heap.size w5 w') (ds := []) #[false, false, false, false, false, false, false, false, false, false, false, false, false, false, false, false, false, false, false, false, false, false, false, false, false, false, false, false, false, false, false, false, false, false, false, false, false, false, false, false, false, false, false, false, false, false, false, false, false, false, false, false, false, false, false, false, false, false, false, false, false, false, false] (by kernel_rfl) rfl rfl ((Below.refl _ _).drew) (fun hHeld => ?_)
    refine with_tabW awake_tab5 awake_bits5 (fun HT_ HW_ => ?_)
    generalize w5.drew = w6 at hHeld ⊢
    refine take_ (i := 1) (N := some 35) (v := ?_) (a' := ?_) #[false, true, false, false, false, false, false, false, false, false, false, false, false, false, false, false, false, false, false, false, false, false, false, false, false, false, false, false, false, false, false, false, false, false, false, false, false, false, false, false, false, false, false, false, false, false, false, false, false, false, false, false, false, false, false, false, false, false, false, false, false, false, false] rfl rfl (take_ofW HT_.out HW_.out (by kernel_rfl)) (fun _ _ _ h => h) (Or.inl ⟨by rfl, ?_⟩) hHeld ?_ ?_
    rotate_left
    · intro w' hw'
      obtain ⟨s0, s1, s2, s3, s4, s5, s6, s7, s8, s9, s10, s11, s12, s13, s14, s15, s16, s17⟩ := HS.out w' hw'
      go_simp
      with_reducible rfl
    rotate_left
    · simp only [Act.put, List.setIfInBounds_toArray, List.set_cons_zero, List.set_cons_succ, i64_w, i32_w]
      rfl
    refine take_ (i := 2) (N := some 36) (v := ?_) (a' := ?_) #[false, true, true, false, false, false, false, false, false, false, false, false, false, false, false, false, false, false, false, false, false, false, false, false, false, false, false, false, false, false, false, false, false, false, false, false, false, false, false, false, false, false, false, false, false, false, false, false, false, false, false, false, false, false, false, false, false, false, false, false, false, false, false] rfl rfl (take_ofW HT_.out HW_.out (by kernel_rfl)) (fun _ _ _ h => h) (Or.inl ⟨by rfl, ?_⟩) hHeld ?_ ?_
    rotate_left
    · intro w' hw'
      obtain ⟨s0, s1, s2, s3, s4, s5, s6, s7, s8, s9, s10, s11, s12, s13, s14, s15, s16, s17⟩ := HS.out w' hw'
      go_simp
      with_reducible rfl
    rotate_left
    · simp only [Act.put, List.setIfInBounds_toArray, List.set_cons_zero, List.set_cons_succ, i64_w, i32_w]
      rfl
    refine take_ (i := 5) (N := some 39) (v := ?_) (a' := ?_) #[false, true, true, false, false, true, false, false, false, false, false, false, false, false, false, false, false, false, false, false, false, false, false, false, false, false, false, false, false, false, false, false, false, false, false, false, false, false, false, false, false, false, false, false, false, false, false, false, false, false, false, false, false, false, false, false, false, false, false, false, false, false, false] rfl rfl (take_ofW HT_.out HW_.out (by kernel_rfl)) (fun _ _ _ h => h) (Or.inl ⟨by rfl, ?_⟩) hHeld ?_ ?_
    rotate_left
    · intro w' hw'
      obtain ⟨s0, s1, s2, s3, s4, s5, s6, s7, s8, s9, s10, s11, s12, s13, s14, s15, s16, s17⟩ := HS.out w' hw'
      go_simp
      with_reducible rfl
    rotate_left
    · simp only [Act.put, List.setIfInBounds_toArray, List.set_cons_zero, List.set_cons_succ, i64_w, i32_w]
      rfl
    refine take_ (i := 6) (N := some 40) (v := ?_) (a' := ?_) #[false, true, true, false, false, true, true, false, false, false, false, false, false, false, false, false, false, false, false, false, false, false, false, false, false, false, false, false, false, false, false, false, false, false, false, false, false, false, false, false, false, false, false, false, false, false, false, false, false, false, false, false, false, false, false, false, false, false, false, false, false, false, false] rfl rfl (take_ofW HT_.out HW_.out (by kernel_rfl)) (fun _ _ _ h => h) (Or.inl ⟨by rfl, ?_⟩) hHeld ?_ ?_
    rotate_left
    · intro w' hw'
      obtain ⟨s0, s1, s2, s3, s4, s5, s6, s7, s8, s9, s10, s11, s12, s13, s14, s15, s16, s17⟩ := HS.out w' hw'
      go_simp
      with_reducible rfl
    rotate_left
    · simp only [Act.put, List.setIfInBounds_toArray, List.set_cons_zero, List.set_cons_succ, i64_w, i32_w]
      rfl
    refine take_ (i := 7) (N := some 41) (v := ?_) (a' := ?_) #[false, true, true, false, false, true, true, true, false, false, false, false, false, false, false, false, false, false, false, false, false, false, false, false, false, false, false, false, false, false, false, false, false, false, false, false, false, false, false, false, false, false, false, false, false, false, false, false, false, false, false, false, false, false, false, false, false, false, false, false, false, false, false] rfl rfl (take_ofW HT_.out HW_.out (by kernel_rfl)) (fun _ _ _ h => h) (Or.inl ⟨by rfl, ?_⟩) hHeld ?_ ?_
    rotate_left
    · intro w' hw'
      obtain ⟨s0, s1, s2, s3, s4, s5, s6, s7, s8, s9, s10, s11, s12, s13, s14, s15, s16, s17⟩ := HS.out w' hw'
      go_simp
      with_reducible rfl
    rotate_left
    · simp only [Act.put, List.setIfInBounds_toArray, List.set_cons_zero, List.set_cons_succ, i64_w, i32_w]
      rfl
    refine take_ (i := 8) (N := some 42) (v := ?_) (a' := ?_) #[false, true, true, false, false, true, true, true, true, false, false, false, false, false, false, false, false, false, false, false, false, false, false, false, false, false, false, false, false, false, false, false, false, false, false, false, false, false, false, false, false, false, false, false, false, false, false, false, false, false, false, false, false, false, false, false, false, false, false, false, false, false, false] rfl rfl (take_ofW HT_.out HW_.out (by kernel_rfl)) (fun _ _ _ h => h) (Or.inl ⟨by rfl, ?_⟩) hHeld ?_ ?_
    rotate_left
    · intro w' hw'
      obtain ⟨s0, s1, s2, s3, s4, s5, s6, s7, s8, s9, s10, s11, s12, s13, s14, s15, s16, s17⟩ := HS.out w' hw'
      go_simp
      with_reducible rfl
    rotate_left
    · simp only [Act.put, List.setIfInBounds_toArray, List.set_cons_zero, List.set_cons_succ, i64_w, i32_w]
      rfl
    refine join_ (σ := Value × Value × Value × Value) 53 #[true, true, true, true, true, true, true, true, true, true, false, false, false, false, false, false, false, false, false, false, false, false, false, false, false, false, false, false, false, false, false, false, false, false, false, false, false, false, false, false, false, false, false, false, false, false, false, false, false, false, false, false, false, false, false, false, false, false, false, false, false, false, false] (fun s_ => [(34, s_.1), (37, s_.2.1), (38, s_.2.2.1), (43, s_.2.2.2)]) (fun s_ w' => Below w5.heap.size w5 w' ∧ ∃ (A38 : Option Addr) (c38 : Nat) (A43 : Option Addr), s_.2.2.1 = .slice A38 4 c38 ∧ 4 ≤ c38 ∧ Kd.C k27 w' A38 4 [tx, tx, tx, tb] ∧ s_.2.2.2 = .slice A43 4 4 ∧ Kd.C k27 w' A43 4 [tx, tx, tx, tb]) ?_ ?_
    rotate_left
    · intro hJ
      refine three_ (i := 0) (j := 3) (k := 9) (Ni := some 34) (Nj := some 37) (Nk := some 43) #[true, true, true, false, false, true, true, true, true, false, false, false, false, false, false, false, false, false, false, false, false, false, false, false, false, false, false, false, false, false, false, false, false, false, false, false, false, false, false, false, false, false, false, false, false, false, false, false, false, false, false, false, false, false, false, false, false, false, false, false, false, false, false] #[false, true, true, true, false, true, true, true, true, false, false, false, false, false, false, false, false, false, false, false, false, false, false, false, false, false, false, false, false, false, false, false, false, false, false, false, false, false, false, false, false, false, false, false, false, false, false, false, false, false, false, false, false, false, false, false, false, false, false, false, false, false, false] #[false, true, true, false, false, true, true, true, true, true, false, false, false, false, false, false, false, false, false, false, false, false, false, false, false, false, false, false, false, false, false, false, false, false, false, false, false, false, false, false, false, false, false, false, false, false, false, false, false, false, false, false, false, false, false, false, false, false, false, false, false, false, false] rfl rfl rfl rfl rfl rfl (three_of HT_.out (by kernel_rfl)) (by decide) (by decide) (by decide) (fun K hK => ?_) (fun K hK => ?_) (fun K hK => ?_)
      · skip
        refine goes_ Try.func31 (by kernel_rfl) rfl #[] (by rfl) rfl rfl (by (try simp only [List.map_toArray, List.map_cons, List.map_nil]); first | done | rfl) ?_
        refine (point' _).mono ?_
        rintro e wk ⟨A34, c34, rfl, hl34, hC34, hb⟩
        refine ⟨_, rfl, ?_⟩
        have hS := trans2 hb hHeld
        clear hHeld hb
        refine hK.out _ _ hS (fun hHeld => ?_)
        clear hK K hS
        refine norm_ (a' := ?_) ?_ ?_
        rotate_left
        · show Act.put _ (some 34) _ = _
          simp only [Act.put, List.setIfInBounds_toArray, List.set_cons_zero, List.set_cons_succ, i64_w, i32_w]
          rfl
        refine two_ (i := 3) (j := 9) (Ni := some 37) (Nj := some 43) #[true, true, true, true, false, true, true, true, true, false, false, false, false, false, false, false, false, false, false, false, false, false, false, false, false, false, false, false, false, false, false, false, false, false, false, false, false, false, false, false, false, false, false, false, false, false, false, false, false, false, false, false, false, false, false, false, false, false, false, false, false, false, false] #[true, true, true, false, false, true, true, true, true, true, false, false, false, false, false, false, false, false, false, false, false, false, false, false, false, false, false, false, false, false, false, false, false, false, false, false, false, false, false, false, false, false, false, false, false, false, false, false, false, false, false, false, false, false, false, false, false, false, false, false, false, false, false] rfl rfl rfl rfl (two_of HT_.out (by kernel_rfl)) (by decide) (by decide) (fun K hK => ?_) (fun K hK => ?_)
        · skip
          refine step_lit 2 #[.int .i64 3, .int .i64 2, .string ⟨#[]⟩, .int .i64 4, .int .i64 0, .string ⟨#[112, 111, 105, 110, 116]⟩] 27 (by rfl) (by first | (go_simp; done) | (go_simp; rfl)) ?_
          intro g37 wk hg37 hb
          have hC37 := c2 wk g37 hg37.out
          clear hg37
          replace hC34 := Kd.C_below hC34 hb
          have hS := trans2 hb hHeld
          clear hHeld hb
          refine hK.out _ _ hS (fun hHeld => ?_)
          clear hK K hS
          refine norm_ (a' := ?_) ?_ ?_
          rotate_left
          · show Act.put _ (some 37) _ = _
            simp only [Act.put, List.setIfInBounds_toArray, List.set_cons_zero, List.set_cons_succ, i64_w, i32_w]
            rfl
          refine two_ (i := 4) (j := 9) (Ni := some 38) (Nj := some 43) #[true, true, true, true, true, true, true, true, true, false, false, false, false, false, false, false, false, false, false, false, false, false, false, false, false, false, false, false, false, false, false, false, false, false, false, false, false, false, false, false, false, false, false, false, false, false, false, false, false, false, false, false, false, false, false, false, false, false, false, false, false, false, false] #[true, true, true, true, false, true, true, true, true, true, false, false, false, false, false, false, false, false, false, false, false, false, false, false, false, false, false, false, false, false, false, false, false, false, false, false, false, false, false, false, false, false, false, false, false, false, false, false, false, false, false, false, false, false, false, false, false, false, false, false, false, false, false] rfl rfl rfl rfl (two_of HT_.out (by kernel_rfl)) (by decide) (by decide) (fun K hK => ?_) (fun K hK => ?_)
          · skip
            refine goes_ Try.func17 (by kernel_rfl) rfl #[.slice A34 pt.length c34, .slice (some ⟨g37, 0, none⟩) 2 2] (by rfl) rfl rfl (by (try simp only [List.map_toArray, List.map_cons, List.map_nil]); first | done | rfl) ?_
            refine (scalars' _ A34 c34 _ hC34 hl34 hC37).mono ?_
            rintro e wk ⟨A38, c38, rfl, hl38, hC38, hb⟩
            refine ⟨_, rfl, ?_⟩
            replace hC34 := Kd.C_below hC34 hb
            replace hC37 := Kd.C_below hC37 hb
            have hS := trans2 hb hHeld
            clear hHeld hb
            refine hK.out _ _ hS (fun hHeld => ?_)
            clear hK K hS
            refine norm_ (a' := ?_) ?_ ?_
            rotate_left
            · show Act.put _ (some 38) _ = _
              simp only [Act.put, List.setIfInBounds_toArray, List.set_cons_zero, List.set_cons_succ, i64_w, i32_w]
              rfl
            refine one_ (i := 9) (N := some 43) #[true, true, true, true, true, true, true, true, true, true, false, false, false, false, false, false, false, false, false, false, false, false, false, false, false, false, false, false, false, false, false, false, false, false, false, false, false, false, false, false, false, false, false, false, false, false, false, false, false, false, false, false, false, false, false, false, false, false, false, false, false, false, false] rfl rfl (one_of HT_.out (by kernel_rfl)) (by decide) (fun K hK => ?_)
            refine step_lit 4 #[.int .i64 1, .int .i64 0, .string ⟨#[]⟩, .int .i64 1, .int .i64 0, .string ⟨#[]⟩, .int .i64 1, .int .i64 0, .string ⟨#[]⟩, .int .i64 2, .int .i64 0, .string ⟨#[]⟩] 27 (by rfl) (by first | (go_simp; done) | (go_simp; rfl)) ?_
            intro g43 wk hg43 hb
            have hC43 := c4 wk g43 hg43.out
            clear hg43
            replace hC34 := Kd.C_below hC34 hb
            replace hC37 := Kd.C_below hC37 hb
            replace hC38 := Kd.C_below hC38 hb
            have hS := trans2 hb hHeld
            clear hHeld hb
            refine hK.out _ _ hS (fun hHeld => ?_)
            clear hK K hS
            refine norm_ (a' := ?_) ?_ ?_
            rotate_left
            · show Act.put _ (some 43) _ = _
              simp only [Act.put, List.setIfInBounds_toArray, List.set_cons_zero, List.set_cons_succ, i64_w, i32_w]
              rfl
            exact norm_ (by first | (simp only [putAll, Act.put, List.setIfInBounds_toArray, List.set_cons_zero, List.set_cons_succ]; done) | (simp only [putAll, Act.put, List.setIfInBounds_toArray, List.set_cons_zero, List.set_cons_succ]; rfl)) (hJ (.slice A34 pt.length c34, .slice (some ⟨g37, 0, none⟩) 2 2, .slice A38 4 c38, .slice (some ⟨g43, 0, none⟩) 4 4) _ ⟨hHeld, A38, c38, some ⟨g43, 0, none⟩, rfl, hl38, hC38, rfl, hC43⟩)
          · skip
            refine step_lit 4 #[.int .i64 1, .int .i64 0, .string ⟨#[]⟩, .int .i64 1, .int .i64 0, .string ⟨#[]⟩, .int .i64 1, .int .i64 0, .string ⟨#[]⟩, .int .i64 2, .int .i64 0, .string ⟨#[]⟩] 27 (by rfl) (by first | (go_simp; done) | (go_simp; rfl)) ?_
            intro g43 wk hg43 hb
            have hC43 := c4 wk g43 hg43.out
            clear hg43
            replace hC34 := Kd.C_below hC34 hb
            replace hC37 := Kd.C_below hC37 hb
            have hS := trans2 hb hHeld
            clear hHeld hb
            refine hK.out _ _ hS (fun hHeld => ?_)
            clear hK K hS
            refine norm_ (a' := ?_) ?_ ?_
            rotate_left
            · show Act.put _ (some 43) _ = _
              simp only [Act.put, List.setIfInBounds_toArray, List.set_cons_zero, List.set_cons_succ, i64_w, i32_w]
              rfl
            refine one_ (i := 4) (N := some 38) #[true, true, true, true, true, true, true, true, true, true, false, false, false, false, false, false, false, false, false, false, false, false, false, false, false, false, false, false, false, false, false, false, false, false, false, false, false, false, false, false, false, false, false, false, false, false, false, false, false, false, false, false, false, false, false, false, false, false, false, false, false, false, false] rfl rfl (one_of HT_.out (by kernel_rfl)) (by decide) (fun K hK => ?_)
            refine goes_ Try.func17 (by kernel_rfl) rfl #[.slice A34 pt.length c34, .slice (some ⟨g37, 0, none⟩) 2 2] (by rfl) rfl rfl (by (try simp only [List.map_toArray, List.map_cons, List.map_nil]); first | done | rfl) ?_
            refine (scalars' _ A34 c34 _ hC34 hl34 hC37).mono ?_
            rintro e wk ⟨A38, c38, rfl, hl38, hC38, hb⟩
            refine ⟨_, rfl, ?_⟩
            replace hC34 := Kd.C_below hC34 hb
            replace hC37 := Kd.C_below hC37 hb
            replace hC43 := Kd.C_below hC43 hb
            have hS := trans2 hb hHeld
            clear hHeld hb
            refine hK.out _ _ hS (fun hHeld => ?_)
            clear hK K hS
            refine norm_ (a' := ?_) ?_ ?_
            rotate_left
            · show Act.put _ (some 38) _ = _
              simp only [Act.put, List.setIfInBounds_toArray, List.set_cons_zero, List.set_cons_succ, i64_w, i32_w]
              rfl
            exact norm_ (by first | (simp only [putAll, Act.put, List.setIfInBounds_toArray, List.set_cons_zero, List.set_cons_succ]; done) | (simp only [putAll, Act.put, List.setIfInBounds_toArray, List.set_cons_zero, List.set_cons_succ]; rfl)) (hJ (.slice A34 pt.length c34, .slice (some ⟨g37, 0, none⟩) 2 2, .slice A38 4 c38, .slice (some ⟨g43, 0, none⟩) 4 4) _ ⟨hHeld, A38, c38, some ⟨g43, 0, none⟩, rfl, hl38, hC38, rfl, hC43⟩)
        · skip
          refine step_lit 4 #[.int .i64 1, .int .i64 0, .string ⟨#[]⟩, .int .i64 1, .int .i64 0, .string ⟨#[]⟩, .int .i64 1, .int .i64 0, .string ⟨#[]⟩, .int .i64 2, .int .i64 0, .string ⟨#[]⟩] 27 (by rfl) (by first | (go_simp; done) | (go_simp; rfl)) ?_
          intro g43 wk hg43 hb
          have hC43 := c4 wk g43 hg43.out
          clear hg43
          replace hC34 := Kd.C_below hC34 hb
          have hS := trans2 hb hHeld
          clear hHeld hb
          refine hK.out _ _ hS (fun hHeld => ?_)
          clear hK K hS
          refine norm_ (a' := ?_) ?_ ?_
          rotate_left
          · show Act.put _ (some 43) _ = _
            simp only [Act.put, List.setIfInBounds_toArray, List.set_cons_zero, List.set_cons_succ, i64_w, i32_w]
            rfl
          refine one_ (i := 3) (N := some 37) #[true, true, true, true, false, true, true, true, true, true, false, false, false, false, false, false, false, false, false, false, false, false, false, false, false, false, false, false, false, false, false, false, false, false, false, false, false, false, false, false, false, false, false, false, false, false, false, false, false, false, false, false, false, false, false, false, false, false, false, false, false, false, false] rfl rfl (one_of HT_.out (by kernel_rfl)) (by decide) (fun K hK => ?_)
          refine step_lit 2 #[.int .i64 3, .int .i64 2, .string ⟨#[]⟩, .int .i64 4, .int .i64 0, .string ⟨#[112, 111, 105, 110, 116]⟩] 27 (by rfl) (by first | (go_simp; done) | (go_simp; rfl)) ?_
          intro g37 wk hg37 hb
          have hC37 := c2 wk g37 hg37.out
          clear hg37
          replace hC34 := Kd.C_below hC34 hb
          replace hC43 := Kd.C_below hC43 hb
          have hS := trans2 hb hHeld
          clear hHeld hb
          refine hK.out _ _ hS (fun hHeld => ?_)
          clear hK K hS
          refine norm_ (a' := ?_) ?_ ?_
          rotate_left
          · show Act.put _ (some 37) _ = _
            simp only [Act.put, List.setIfInBounds_toArray, List.set_cons_zero, List.set_cons_succ, i64_w, i32_w]
            rfl
          refine one_ (i := 4) (N := some 38) #[true, true, true, true, true, true, true, true, true, true, false, false, false, false, false, false, false, false, false, false, false, false, false, false, false, false, false, false, false, false, false, false, false, false, false, false, false, false, false, false, false, false, false, false, false, false, false, false, false, false, false, false, false, false, false, false, false, false, false, false, false, false, false] rfl rfl (one_of HT_.out (by kernel_rfl)) (by decide) (fun K hK => ?_)
          refine goes_ Try.func17 (by kernel_rfl) rfl #[.slice A34 pt.length c34, .slice (some ⟨g37, 0, none⟩) 2 2] (by rfl) rfl rfl (by (try simp only [List.map_toArray, List.map_cons, List.map_nil]); first | done | rfl) ?_
          refine (scalars' _ A34 c34 _ hC34 hl34 hC37).mono ?_
          rintro e wk ⟨A38, c38, rfl, hl38, hC38, hb⟩
          refine ⟨_, rfl, ?_⟩
          replace hC34 := Kd.C_below hC34 hb
          replace hC43 := Kd.C_below hC43 hb
          replace hC37 := Kd.C_below hC37 hb
          have hS := trans2 hb hHeld
          clear hHeld hb
          refine hK.out _ _ hS (fun hHeld => ?_)
          clear hK K hS
          refine norm_ (a' := ?_) ?_ ?_
          rotate_left
          · show Act.put _ (some 38) _ = _
            simp only [Act.put, List.setIfInBounds_toArray, List.set_cons_zero, List.set_cons_succ, i64_w, i32_w]
            rfl
          exact norm_ (by first | (simp only [putAll, Act.put, List.setIfInBounds_toArray, List.set_cons_zero, List.set_cons_succ]; done) | (simp only [putAll, Act.put, List.setIfInBounds_toArray, List.set_cons_zero, List.set_cons_succ]; rfl)) (hJ (.slice A34 pt.length c34, .slice (some ⟨g37, 0, none⟩) 2 2, .slice A38 4 c38, .slice (some ⟨g43, 0, none⟩) 4 4) _ ⟨hHeld, A38, c38, some ⟨g43, 0, none⟩, rfl, hl38, hC38, rfl, hC43⟩)
      · skip
        refine step_lit 2 #[.int .i64 3, .int .i64 2, .string ⟨#[]⟩, .int .i64 4, .int .i64 0, .string ⟨#[112, 111, 105, 110, 116]⟩] 27 (by rfl) (by first | (go_simp; done) | (go_simp; rfl)) ?_
        intro g37 wk hg37 hb
        have hC37 := c2 wk g37 hg37.out
        clear hg37
        have hS := trans2 hb hHeld
        clear hHeld hb
        refine hK.out _ _ hS (fun hHeld => ?_)
        clear hK K hS
        refine norm_ (a' := ?_) ?_ ?_
        rotate_left
        · show Act.put _ (some 37) _ = _
          simp only [Act.put, List.setIfInBounds_toArray, List.set_cons_zero, List.set_cons_succ, i64_w, i32_w]
          rfl
        refine two_ (i := 0) (j := 9) (Ni := some 34) (Nj := some 43) #[true, true, true, true, false, true, true, true, true, false, false, false, false, false, false, false, false, false, false, false, false, false, false, false, false, false, false, false, false, false, false, false, false, false, false, false, false, false, false, false, false, false, false, false, false, false, false, false, false, false, false, false, false, false, false, false, false, false, false, false, false, false, false] #[false, true, true, true, false, true, true, true, true, true, false, false, false, false, false, false, false, false, false, false, false, false, false, false, false, false, false, false, false, false, false, false, false, false, false, false, false, false, false, false, false, false, false, false, false, false, false, false, false, false, false, false, false, false, false, false, false, false, false, false, false, false, false] rfl rfl rfl rfl (two_of HT_.out (by kernel_rfl)) (by decide) (by decide) (fun K hK => ?_) (fun K hK => ?_)
        · skip
          refine goes_ Try.func31 (by kernel_rfl) rfl #[] (by rfl) rfl rfl (by (try simp only [List.map_toArray, List.map_cons, List.map_nil]); first | done | rfl) ?_
          refine (point' _).mono ?_
          rintro e wk ⟨A34, c34, rfl, hl34, hC34, hb⟩
          refine ⟨_, rfl, ?_⟩
          replace hC37 := Kd.C_below hC37 hb
          have hS := trans2 hb hHeld
          clear hHeld hb
          refine hK.out _ _ hS (fun hHeld => ?_)
          clear hK K hS
          refine norm_ (a' := ?_) ?_ ?_
          rotate_left
          · show Act.put _ (some 34) _ = _
            simp only [Act.put, List.setIfInBounds_toArray, List.set_cons_zero, List.set_cons_succ, i64_w, i32_w]
            rfl
          refine two_ (i := 4) (j := 9) (Ni := some 38) (Nj := some 43) #[true, true, true, true, true, true, true, true, true, false, false, false, false, false, false, false, false, false, false, false, false, false, false, false, false, false, false, false, false, false, false, false, false, false, false, false, false, false, false, false, false, false, false, false, false, false, false, false, false, false, false, false, false, false, false, false, false, false, false, false, false, false, false] #[true, true, true, true, false, true, true, true, true, true, false, false, false, false, false, false, false, false, false, false, false, false, false, false, false, false, false, false, false, false, false, false, false, false, false, false, false, false, false, false, false, false, false, false, false, false, false, false, false, false, false, false, false, false, false, false, false, false, false, false, false, false, false] rfl rfl rfl rfl (two_of HT_.out (by kernel_rfl)) (by decide) (by decide) (fun K hK => ?_) (fun K hK => ?_)
          · skip
            refine goes_ Try.func17 (by kernel_rfl) rfl #[.slice A34 pt.length c34, .slice (some ⟨g37, 0, none⟩) 2 2] (by rfl) rfl rfl (by (try simp only [List.map_toArray, List.map_cons, List.map_nil]); first | done | rfl) ?_
            refine (scalars' _ A34 c34 _ hC34 hl34 hC37).mono ?_
            rintro e wk ⟨A38, c38, rfl, hl38, hC38, hb⟩
            refine ⟨_, rfl, ?_⟩
            replace hC37 := Kd.C_below hC37 hb
            replace hC34 := Kd.C_below hC34 hb
            have hS := trans2 hb hHeld
            clear hHeld hb
            refine hK.out _ _ hS (fun hHeld => ?_)
            clear hK K hS
            refine norm_ (a' := ?_) ?_ ?_
            rotate_left
            · show Act.put _ (some 38) _ = _
              simp only [Act.put, List.setIfInBounds_toArray, List.set_cons_zero, List.set_cons_succ, i64_w, i32_w]
              rfl
            refine one_ (i := 9) (N := some 43) #[true, true, true, true, true, true, true, true, true, true, false, false, false, false, false, false, false, false, false, false, false, false, false, false, false, false, false, false, false, false, false, false, false, false, false, false, false, false, false, false, false, false, false, false, false, false, false, false, false, false, false, false, false, false, false, false, false, false, false, false, false, false, false] rfl rfl (one_of HT_.out (by kernel_rfl)) (by decide) (fun K hK => ?_)
            refine step_lit 4 #[.int .i64 1, .int .i64 0, .string ⟨#[]⟩, .int .i64 1, .int .i64 0, .string ⟨#[]⟩, .int .i64 1, .int .i64 0, .string ⟨#[]⟩, .int .i64 2, .int .i64 0, .string ⟨#[]⟩] 27 (by rfl) (by first | (go_simp; done) | (go_simp; rfl)) ?_
            intro g43 wk hg43 hb
            have hC43 := c4 wk g43 hg43.out
            clear hg43
            replace hC37 := Kd.C_below hC37 hb
            replace hC34 := Kd.C_below hC34 hb
            replace hC38 := Kd.C_below hC38 hb
            have hS := trans2 hb hHeld
            clear hHeld hb
            refine hK.out _ _ hS (fun hHeld => ?_)
            clear hK K hS
            refine norm_ (a' := ?_) ?_ ?_
            rotate_left
            · show Act.put _ (some 43) _ = _
              simp only [Act.put, List.setIfInBounds_toArray, List.set_cons_zero, List.set_cons_succ, i64_w, i32_w]
              rfl
            exact norm_ (by first | (simp only [putAll, Act.put, List.setIfInBounds_toArray, List.set_cons_zero, List.set_cons_succ]; done) | (simp only [putAll, Act.put, List.setIfInBounds_toArray, List.set_cons_zero, List.set_cons_succ]; rfl)) (hJ (.slice A34 pt.length c34, .slice (some ⟨g37, 0, none⟩) 2 2, .slice A38 4 c38, .slice (some ⟨g43, 0, none⟩) 4 4) _ ⟨hHeld, A38, c38, some ⟨g43, 0, none⟩, rfl, hl38, hC38, rfl, hC43⟩)
          · skip
            refine step_lit 4 #[.int .i64 1, .int .i64 0, .string ⟨#[]⟩, .int .i64 1, .int .i64 0, .string ⟨#[]⟩, .int .i64 1, .int .i64 0, .string ⟨#[]⟩, .int .i64 2, .int .i64 0, .string ⟨#[]⟩] 27 (by rfl) (by first | (go_simp; done) | (go_simp; rfl)) ?_
            intro g43 wk hg43 hb
            have hC43 := c4 wk g43 hg43.out
            clear hg43
            replace hC37 := Kd.C_below hC37 hb
            replace hC34 := Kd.C_below hC34 hb
            have hS := trans2 hb hHeld
            clear hHeld hb
            refine hK.out _ _ hS (fun hHeld => ?_)
            clear hK K hS
            refine norm_ (a' := ?_) ?_ ?_
            rotate_left
            · show Act.put _ (some 43) _ = _
              simp only [Act.put, List.setIfInBounds_toArray, List.set_cons_zero, List.set_cons_succ, i64_w, i32_w]
              rfl
            refine one_ (i := 4) (N := some 38) #[true, true, true, true, true, true, true, true, true, true, false, false, false, false, false, false, false, false, false, false, false, false, false, false, false, false, false, false, false, false, false, false, false, false, false, false, false, false, false, false, false, false, false, false, false, false, false, false, false, false, false, false, false, false, false, false, false, false, false, false, false, false, false] rfl rfl (one_of HT_.out (by kernel_rfl)) (by decide) (fun K hK => ?_)
            refine goes_ Try.func17 (by kernel_rfl) rfl #[.slice A34 pt.length c34, .slice (some ⟨g37, 0, none⟩) 2 2] (by rfl) rfl rfl (by (try simp only [List.map_toArray, List.map_cons, List.map_nil]); first | done | rfl) ?_
            refine (scalars' _ A34 c34 _ hC34 hl34 hC37).mono ?_
            rintro e wk ⟨A38, c38, rfl, hl38, hC38, hb⟩
            refine ⟨_, rfl, ?_⟩
            replace hC37 := Kd.C_below hC37 hb
            replace hC34 := Kd.C_below hC34 hb
            replace hC43 := Kd.C_below hC43 hb
            have hS := trans2 hb hHeld
            clear hHeld hb
            refine hK.out _ _ hS (fun hHeld => ?_)
            clear hK K hS
            refine norm_ (a' := ?_) ?_ ?_
            rotate_left
            · show Act.put _ (some 38) _ = _
              simp only [Act.put, List.setIfInBounds_toArray, List.set_cons_zero, List.set_cons_succ, i64_w, i32_w]
              rfl
            exact norm_ (by first | (simp only [putAll, Act.put, List.setIfInBounds_toArray, List.set_cons_zero, List.set_cons_succ]; done) | (simp only [putAll, Act.put, List.setIfInBounds_toArray, List.set_cons_zero, List.set_cons_succ]; rfl)) (hJ (.slice A34 pt.length c34, .slice (some ⟨g37, 0, none⟩) 2 2, .slice A38 4 c38, .slice (some ⟨g43, 0, none⟩) 4 4) _ ⟨hHeld, A38, c38, some ⟨g43, 0, none⟩, rfl, hl38, hC38, rfl, hC43⟩)
        · skip
          refine step_lit 4 #[.int .i64 1, .int .i64 0, .string ⟨#[]⟩, .int .i64 1, .int .i64 0, .string ⟨#[]⟩, .int .i64 1, .int .i64 0, .string ⟨#[]⟩, .int .i64 2, .int .i64 0, .string ⟨#[]⟩] 27 (by rfl) (by first | (go_simp; done) | (go_simp; rfl)) ?_
          intro g43 wk hg43 hb
          have hC43 := c4 wk g43 hg43.out
          clear hg43
          replace hC37 := Kd.C_below hC37 hb
          have hS := trans2 hb hHeld
          clear hHeld hb
          refine hK.out _ _ hS (fun hHeld => ?_)
          clear hK K hS
          refine norm_ (a' := ?_) ?_ ?_
          rotate_left
          · show Act.put _ (some 43) _ = _
            simp only [Act.put, List.setIfInBounds_toArray, List.set_cons_zero, List.set_cons_succ, i64_w, i32_w]
            rfl
          refine one_ (i := 0) (N := some 34) #[true, true, true, true, false, true, true, true, true, true, false, false, false, false, false, false, false, false, false, false, false, false, false, false, false, false, false, false, false, false, false, false, false, false, false, false, false, false, false, false, false, false, false, false, false, false, false, false, false, false, false, false, false, false, false, false, false, false, false, false, false, false, false] rfl rfl (one_of HT_.out (by kernel_rfl)) (by decide) (fun K hK => ?_)
          refine goes_ Try.func31 (by kernel_rfl) rfl #[] (by rfl) rfl rfl (by (try simp only [List.map_toArray, List.map_cons, List.map_nil]); first | done | rfl) ?_
          refine (point' _).mono ?_
          rintro e wk ⟨A34, c34, rfl, hl34, hC34, hb⟩
          refine ⟨_, rfl, ?_⟩
          replace hC37 := Kd.C_below hC37 hb
          replace hC43 := Kd.C_below hC43 hb
          have hS := trans2 hb hHeld
          clear hHeld hb
          refine hK.out _ _ hS (fun hHeld => ?_)
          clear hK K hS
          refine norm_ (a' := ?_) ?_ ?_
          rotate_left
          · show Act.put _ (some 34) _ = _
            simp only [Act.put, List.setIfInBounds_toArray, List.set_cons_zero, List.set_cons_succ, i64_w, i32_w]
            rfl
          refine one_ (i := 4) (N := some 38) #[true, true, true, true, true, true, true, true, true, true, false, false, false, false, false, false, false, false, false, false, false, false, false, false, false, false, false, false, false, false, false, false, false, false, false, false, false, false, false, false, false, false, false, false, false, false, false, false, false, false, false, false, false, false, false, false, false, false, false, false, false, false, false] rfl rfl (one_of HT_.out (by kernel_rfl)) (by decide) (fun K hK => ?_)
          refine goes_ Try.func17 (by kernel_rfl) rfl #[.slice A34 pt.length c34, .slice (some ⟨g37, 0, none⟩) 2 2] (by rfl) rfl rfl (by (try simp only [List.map_toArray, List.map_cons, List.map_nil]); first | done | rfl) ?_
          refine (scalars' _ A34 c34 _ hC34 hl34 hC37).mono ?_
          rintro e wk ⟨A38, c38, rfl, hl38, hC38, hb⟩
          refine ⟨_, rfl, ?_⟩
          replace hC37 := Kd.C_below hC37 hb
          replace hC43 := Kd.C_below hC43 hb
          replace hC34 := Kd.C_below hC34 hb
          have hS := trans2 hb hHeld
          clear hHeld hb
          refine hK.out _ _ hS (fun hHeld => ?_)
          clear hK K hS
          refine norm_ (a' := ?_) ?_ ?_
          rotate_left
          · show Act.put _ (some 38) _ = _
            simp only [Act.put, List.setIfInBounds_toArray, List.set_cons_zero, List.set_cons_succ, i64_w, i32_w]
            rfl
          exact norm_ (by first | (simp only [putAll, Act.put, List.setIfInBounds_toArray, List.set_cons_zero, List.set_cons_succ]; done) | (simp only [putAll, Act.put, List.setIfInBounds_toArray, List.set_cons_zero, List.set_cons_succ]; rfl)) (hJ (.slice A34 pt.length c34, .slice (some ⟨g37, 0, none⟩) 2 2, .slice A38 4 c38, .slice (some ⟨g43, 0, none⟩) 4 4) _ ⟨hHeld, A38, c38, some ⟨g43, 0, none⟩, rfl, hl38, hC38, rfl, hC43⟩)
      · skip
        refine step_lit 4 #[.int .i64 1, .int .i64 0, .string ⟨#[]⟩, .int .i64 1, .int .i64 0, .string ⟨#[]⟩, .int .i64 1, .int .i64 0, .string ⟨#[]⟩, .int .i64 2, .int .i64 0, .string ⟨#[]⟩] 27 (by rfl) (by first | (go_simp; done) | (go_simp; rfl)) ?_
        intro g43 wk hg43 hb
        have hC43 := c4 wk g43 hg43.out
        clear hg43
        have hS := trans2 hb hHeld
        clear hHeld hb
        refine hK.out _ _ hS (fun hHeld => ?_)
        clear hK K hS
        refine norm_ (a' := ?_) ?_ ?_
        rotate_left
        · show Act.put _ (some 43) _ = _
          simp only [Act.put, List.setIfInBounds_toArray, List.set_cons_zero, List.set_cons_succ, i64_w, i32_w]
          rfl
        refine two_ (i := 0) (j := 3) (Ni := some 34) (Nj := some 37) #[true, true, true, false, false, true, true, true, true, true, false, false, false, false, false, false, false, false, false, false, false, false, false, false, false, false, false, false, false, false, false, false, false, false, false, false, false, false, false, false, false, false, false, false, false, false, false, false, false, false, false, false, false, false, false, false, false, false, false, false, false, false, false] #[false, true, true, true, false, true, true, true, true, true, false, false, false, false, false, false, false, false, false, false, false, false, false, false, false, false, false, false, false, false, false, false, false, false, false, false, false, false, false, false, false, false, false, false, false, false, false, false, false, false, false, false, false, false, false, false, false, false, false, false, false, false, false] rfl rfl rfl rfl (two_of HT_.out (by kernel_rfl)) (by decide) (by decide) (fun K hK => ?_) (fun K hK => ?_)
        · skip
          refine goes_ Try.func31 (by kernel_rfl) rfl #[] (by rfl) rfl rfl (by (try simp only [List.map_toArray, List.map_cons, List.map_nil]); first | done | rfl) ?_
          refine (point' _).mono ?_
          rintro e wk ⟨A34, c34, rfl, hl34, hC34, hb⟩
          refine ⟨_, rfl, ?_⟩
          replace hC43 := Kd.C_below hC43 hb
          have hS := trans2 hb hHeld
          clear hHeld hb
          refine hK.out _ _ hS (fun hHeld => ?_)
          clear hK K hS
          refine norm_ (a' := ?_) ?_ ?_
          rotate_left
          · show Act.put _ (some 34) _ = _
            simp only [Act.put, List.setIfInBounds_toArray, List.set_cons_zero, List.set_cons_succ, i64_w, i32_w]
            rfl
          refine one_ (i := 3) (N := some 37) #[true, true, true, true, false, true, true, true, true, true, false, false, false, false, false, false, false, false, false, false, false, false, false, false, false, false, false, false, false, false, false, false, false, false, false, false, false, false, false, false, false, false, false, false, false, false, false, false, false, false, false, false, false, false, false, false, false, false, false, false, false, false, false] rfl rfl (one_of HT_.out (by kernel_rfl)) (by decide) (fun K hK => ?_)
          refine step_lit 2 #[.int .i64 3, .int .i64 2, .string ⟨#[]⟩, .int .i64 4, .int .i64 0, .string ⟨#[112, 111, 105, 110, 116]⟩] 27 (by rfl) (by first | (go_simp; done) | (go_simp; rfl)) ?_
          intro g37 wk hg37 hb
          have hC37 := c2 wk g37 hg37.out
          clear hg37
          replace hC43 := Kd.C_below hC43 hb
          replace hC34 := Kd.C_below hC34 hb
          have hS := trans2 hb hHeld
          clear hHeld hb
          refine hK.out _ _ hS (fun hHeld => ?_)
          clear hK K hS
          refine norm_ (a' := ?_) ?_ ?_
          rotate_left
          · show Act.put _ (some 37) _ = _
            simp only [Act.put, List.setIfInBounds_toArray, List.set_cons_zero, List.set_cons_succ, i64_w, i32_w]
            rfl
          refine one_ (i := 4) (N := some 38) #[true, true, true, true, true, true, true, true, true, true, false, false, false, false, false, false, false, false, false, false, false, false, false, false, false, false, false, false, false, false, false, false, false, false, false, false, false, false, false, false, false, false, false, false, false, false, false, false, false, false, false, false, false, false, false, false, false, false, false, false, false, false, false] rfl rfl (one_of HT_.out (by kernel_rfl)) (by decide) (fun K hK => ?_)
          refine goes_ Try.func17 (by kernel_rfl) rfl #[.slice A34 pt.length c34, .slice (some ⟨g37, 0, none⟩) 2 2] (by rfl) rfl rfl (by (try simp only [List.map_toArray, List.map_cons, List.map_nil]); first | done | rfl) ?_
          refine (scalars' _ A34 c34 _ hC34 hl34 hC37).mono ?_
          rintro e wk ⟨A38, c38, rfl, hl38, hC38, hb⟩
          refine ⟨_, rfl, ?_⟩
          replace hC43 := Kd.C_below hC43 hb
          replace hC34 := Kd.C_below hC34 hb
          replace hC37 := Kd.C_below hC37 hb
          have hS := trans2 hb hHeld
          clear hHeld hb
          refine hK.out _ _ hS (fun hHeld => ?_)
          clear hK K hS
          refine norm_ (a' := ?_) ?_ ?_
          rotate_left
          · show Act.put _ (some 38) _ = _
            simp only [Act.put, List.setIfInBounds_toArray, List.set_cons_zero, List.set_cons_succ, i64_w, i32_w]
            rfl
          exact norm_ (by first | (simp only [putAll, Act.put, List.setIfInBounds_toArray, List.set_cons_zero, List.set_cons_succ]; done) | (simp only [putAll, Act.put, List.setIfInBounds_toArray, List.set_cons_zero, List.set_cons_succ]; rfl)) (hJ (.slice A34 pt.length c34, .slice (some ⟨g37, 0, none⟩) 2 2, .slice A38 4 c38, .slice (some ⟨g43, 0, none⟩) 4 4) _ ⟨hHeld, A38, c38, some ⟨g43, 0, none⟩, rfl, hl38, hC38, rfl, hC43⟩)
        · skip
          refine step_lit 2 #[.int .i64 3, .int .i64 2, .string ⟨#[]⟩, .int .i64 4, .int .i64 0, .string ⟨#[112, 111, 105, 110, 116]⟩] 27 (by rfl) (by first | (go_simp; done) | (go_simp; rfl)) ?_
          intro g37 wk hg37 hb
          have hC37 := c2 wk g37 hg37.out
          clear hg37
          replace hC43 := Kd.C_below hC43 hb
          have hS := trans2 hb hHeld
          clear hHeld hb
          refine hK.out _ _ hS (fun hHeld => ?_)
          clear hK K hS
          refine norm_ (a' := ?_) ?_ ?_
          rotate_left
          · show Act.put _ (some 37) _ = _
            simp only [Act.put, List.setIfInBounds_toArray, List.set_cons_zero, List.set_cons_succ, i64_w, i32_w]
            rfl
          refine one_ (i := 0) (N := some 34) #[true, true, true, true, false, true, true, true, true, true, false, false, false, false, false, false, false, false, false, false, false, false, false, false, false, false, false, false, false, false, false, false, false, false, false, false, false, false, false, false, false, false, false, false, false, false, false, false, false, false, false, false, false, false, false, false, false, false, false, false, false, false, false] rfl rfl (one_of HT_.out (by kernel_rfl)) (by decide) (fun K hK => ?_)
          refine goes_ Try.func31 (by kernel_rfl) rfl #[] (by rfl) rfl rfl (by (try simp only [List.map_toArray, List.map_cons, List.map_nil]); first | done | rfl) ?_
          refine (point' _).mono ?_
          rintro e wk ⟨A34, c34, rfl, hl34, hC34, hb⟩
          refine ⟨_, rfl, ?_⟩
          replace hC43 := Kd.C_below hC43 hb
          replace hC37 := Kd.C_below hC37 hb
          have hS := trans2 hb hHeld
          clear hHeld hb
          refine hK.out _ _ hS (fun hHeld => ?_)
          clear hK K hS
          refine norm_ (a' := ?_) ?_ ?_
          rotate_left
          · show Act.put _ (some 34) _ = _
            simp only [Act.put, List.setIfInBounds_toArray, List.set_cons_zero, List.set_cons_succ, i64_w, i32_w]
            rfl
          refine one_ (i := 4) (N := some 38) #[true, true, true, true, true, true, true, true, true, true, false, false, false, false, false, false, false, false, false, false, false, false, false, false, false, false, false, false, false, false, false, false, false, false, false, false, false, false, false, false, false, false, false, false, false, false, false, false, false, false, false, false, false, false, false, false, false, false, false, false, false, false, false] rfl rfl (one_of HT_.out (by kernel_rfl)) (by decide) (fun K hK => ?_)
          refine goes_ Try.func17 (by kernel_rfl) rfl #[.slice A34 pt.length c34, .slice (some ⟨g37, 0, none⟩) 2 2] (by rfl) rfl rfl (by (try simp only [List.map_toArray, List.map_cons, List.map_nil]); first | done | rfl) ?_
          refine (scalars' _ A34 c34 _ hC34 hl34 hC37).mono ?_
          rintro e wk ⟨A38, c38, rfl, hl38, hC38, hb⟩
          refine ⟨_, rfl, ?_⟩
          replace hC43 := Kd.C_below hC43 hb
          replace hC37 := Kd.C_below hC37 hb
          replace hC34 := Kd.C_below hC34 hb
          have hS := trans2 hb hHeld
          clear hHeld hb
          refine hK.out _ _ hS (fun hHeld => ?_)
          clear hK K hS
          refine norm_ (a' := ?_) ?_ ?_
          rotate_left
          · show Act.put _ (some 38) _ = _
            simp only [Act.put, List.setIfInBounds_toArray, List.set_cons_zero, List.set_cons_succ, i64_w, i32_w]
            rfl
          exact norm_ (by first | (simp only [putAll, Act.put, List.setIfInBounds_toArray, List.set_cons_zero, List.set_cons_succ]; done) | (simp only [putAll, Act.put, List.setIfInBounds_toArray, List.set_cons_zero, List.set_cons_succ]; rfl)) (hJ (.slice A34 pt.length c34, .slice (some ⟨g37, 0, none⟩) 2 2, .slice A38 4 c38, .slice (some ⟨g43, 0, none⟩) 4 4) _ ⟨hHeld, A38, c38, some ⟨g43, 0, none⟩, rfl, hl38, hC38, rfl, hC43⟩)
    rintro ⟨v34, v37, v38, v43⟩ w44 ⟨hB44, A38, c38, A43, e38, hl38, hC38, e43, hC43⟩
    have e38' : v38 = .slice A38 4 c38 := e38
    have e43' : v43 = .slice A43 4 4 := e43
    clear e38 e43
    subst e38'
    subst e43'
    clear hHeld
    have hHeld := hB44
    clear hB44
    refine norm_ (a' := ?_) ?_ ?_
    rotate_left
    · simp only [putAll, Act.put, List.setIfInBounds_toArray, List.set_cons_zero, List.set_cons_succ]
      rfl
    refine one_ (i := 10) (N := some 44) #[true, true, true, true, true, true, true, true, true, true, true, false, false, false, false, false, false, false, false, false, false, false, false, false, false, false, false, false, false, false, false, false, false, false, false, false, false, false, false, false, false, false, false, false, false, false, false, false, false, false, false, false, false, false, false, false, false, false, false, false, false, false, false] rfl rfl (one_of HT_.out (by kernel_rfl)) (by decide) (fun K hK => ?_)
    refine goes_ Try.func16 (by kernel_rfl) rfl #[.slice A38 4 c38, .slice A43 4 4] (by rfl) rfl rfl (by (try simp only [List.map_toArray, List.map_cons, List.map_nil]); first | done | rfl) ?_
    refine (equal' _ A38 c38 _ hC38 hl38 hC43).mono ?_
    rintro e wk ⟨rfl, hb⟩
    refine ⟨_, rfl, ?_⟩
    have hS := trans2 hb hHeld
    clear hHeld hb
    refine hK.out _ _ hS (fun hHeld => ?_)
    clear hK K hS
    refine norm_ (a' := ?_) ?_ ?_
    rotate_left
    · show Act.put _ (some 44) _ = _
      simp only [Act.put, List.setIfInBounds_toArray, List.set_cons_zero, List.set_cons_succ, i64_w, i32_w]
      rfl
    clear hC38 hC43 hl38
    refine pure_ (i := 11) (N := some 45) (v := ?_) (a' := ?_) #[true, true, true, true, true, true, true, true, true, true, true, true, false, false, false, false, false, false, false, false, false, false, false, false, false, false, false, false, false, false, false, false, false, false, false, false, false, false, false, false, false, false, false, false, false, false, false, false, false, false, false, false, false, false, false, false, false, false, false, false, false, false, false] rfl rfl (any_of HT_.out (by kernel_rfl)) (fun _ _ _ h => h) (Or.inl ⟨by rfl, ?_⟩) ?_ ?_
    rotate_left
    · intro w'
      go_simp
      with_reducible rfl
    rotate_left
    · simp only [Act.put, List.setIfInBounds_toArray, List.set_cons_zero, List.set_cons_succ, i64_w, i32_w]
      rfl
    refine pure_ (i := 12) (N := some 46) (v := ?_) (a' := ?_) #[true, true, true, true, true, true, true, true, true, true, true, true, true, false, false, false, false, false, false, false, false, false, false, false, false, false, false, false, false, false, false, false, false, false, false, false, false, false, false, false, false, false, false, false, false, false, false, false, false, false, false, false, false, false, false, false, false, false, false, false, false, false, false] rfl rfl (any_of HT_.out (by kernel_rfl)) (fun _ _ _ h => h) (Or.inl ⟨by rfl, ?_⟩) ?_ ?_
    rotate_left
    · intro w'
      go_simp
      with_reducible rfl
    rotate_left
    · simp only [Act.put, List.setIfInBounds_toArray, List.set_cons_zero, List.set_cons_succ, i64_w, i32_w]
      rfl
    refine pure_ (i := 13) (N := some 47) (v := ?_) (a' := ?_) #[true, true, true, true, true, true, true, true, true, true, true, true, true, true, false, false, false, false, false, false, false, false, false, false, false, false, false, false, false, false, false, false, false, false, false, false, false, false, false, false, false, false, false, false, false, false, false, false, false, false, false, false, false, false, false, false, false, false, false, false, false, false, false] rfl rfl (any_of HT_.out (by kernel_rfl)) (fun _ _ _ h => h) (Or.inl ⟨by rfl, ?_⟩) ?_ ?_
    rotate_left
    · intro w'
      go_simp
      with_reducible rfl
    rotate_left
    · simp only [Act.put, List.setIfInBounds_toArray, List.set_cons_zero, List.set_cons_succ, i64_w, i32_w]
      rfl
    refine pure_ (i := 14) (N := some 48) (v := ?_) (a' := ?_) #[true, true, true, true, true, true, true, true, true, true, true, true, true, true, true, false, false, false, false, false, false, false, false, false, false, false, false, false, false, false, false, false, false, false, false, false, false, false, false, false, false, false, false, false, false, false, false, false, false, false, false, false, false, false, false, false, false, false, false, false, false, false, false] rfl rfl (any_of HT_.out (by kernel_rfl)) (fun _ _ _ h => h) (Or.inl ⟨by rfl, ?_⟩) ?_ ?_
    rotate_left
    · intro w'
      go_simp
      with_reducible rfl
    rotate_left
    · simp only [Act.put, List.setIfInBounds_toArray, List.set_cons_zero, List.set_cons_succ, i64_w, i32_w]
      rfl
    refine pure_ (i := 15) (N := some 49) (v := ?_) (a' := ?_) #[true, true, true, true, true, true, true, true, true, true, true, true, true, true, true, true, false, false, false, false, false, false, false, false, false, false, false, false, false, false, false, false, false, false, false, false, false, false, false, false, false, false, false, false, false, false, false, false, false, false, false, false, false, false, false, false, false, false, false, false, false, false, false] rfl rfl (any_of HT_.out (by kernel_rfl)) (fun _ _ _ h => h) (Or.inl ⟨by rfl, ?_⟩) ?_ ?_
    rotate_left
    · intro w'
      go_simp
      with_reducible rfl
    rotate_left
    · simp only [Act.put, List.setIfInBounds_toArray, List.set_cons_zero, List.set_cons_succ, i64_w, i32_w]
      rfl
    refine pure_ (i := 16) (N := some 50) (v := ?_) (a' := ?_) #[true, true, true, true, true, true, true, true, true, true, true, true, true, true, true, true, true, false, false, false, false, false, false, false, false, false, false, false, false, false, false, false, false, false, false, false, false, false, false, false, false, false, false, false, false, false, false, false, false, false, false, false, false, false, false, false, false, false, false, false, false, false, false] rfl rfl (any_of HT_.out (by kernel_rfl)) (fun _ _ _ h => h) (Or.inl ⟨by rfl, ?_⟩) ?_ ?_
    rotate_left
    · intro w'
      go_simp
      with_reducible rfl
    rotate_left
    · simp only [Act.put, List.setIfInBounds_toArray, List.set_cons_zero, List.set_cons_succ, i64_w, i32_w]
      rfl
    refine pure_ (i := 17) (N := some 51) (v := ?_) (a' := ?_) #[true, true, true, true, true, true, true, true, true, true, true, true, true, true, true, true, true, true, false, false, false, false, false, false, false, false, false, false, false, false, false, false, false, false, false, false, false, false, false, false, false, false, false, false, false, false, false, false, false, false, false, false, false, false, false, false, false, false, false, false, false, false, false] rfl rfl (any_of HT_.out (by kernel_rfl)) (fun _ _ _ h => h) (Or.inl ⟨by rfl, ?_⟩) ?_ ?_
    rotate_left
    · intro w'
      go_simp
      with_reducible rfl
    rotate_left
    · simp only [Act.put, List.setIfInBounds_toArray, List.set_cons_zero, List.set_cons_succ, i64_w, i32_w]
      rfl
    refine pure_ (i := 18) (N := some 52) (v := ?_) (a' := ?_) #[true, true, true, true, true, true, true, true, true, true, true, true, true, true, true, true, true, true, true, false, false, false, false, false, false, false, false, false, false, false, false, false, false, false, false, false, false, false, false, false, false, false, false, false, false, false, false, false, false, false, false, false, false, false, false, false, false, false, false, false, false, false, false] rfl rfl (any_of HT_.out (by kernel_rfl)) (fun _ _ _ h => h) (Or.inl ⟨by rfl, ?_⟩) ?_ ?_
    rotate_left
    · intro w'
      go_simp
      with_reducible rfl
    rotate_left
    · simp only [Act.put, List.setIfInBounds_toArray, List.set_cons_zero, List.set_cons_succ, i64_w, i32_w]
      rfl
    refine pure_ (i := 19) (N := some 53) (v := ?_) (a' := ?_) #[true, true, true, true, true, true, true, true, true, true, true, true, true, true, true, true, true, true, true, true, false, false, false, false, false, false, false, false, false, false, false, false, false, false, false, false, false, false, false, false, false, false, false, false, false, false, false, false, false, false, false, false, false, false, false, false, false, false, false, false, false, false, false] rfl rfl (any_of HT_.out (by kernel_rfl)) (fun _ _ _ h => h) (Or.inl ⟨by rfl, ?_⟩) ?_ ?_
    rotate_left
    · intro w'
      go_simp
      with_reducible rfl
    rotate_left
    · simp only [Act.put, List.setIfInBounds_toArray, List.set_cons_zero, List.set_cons_succ, i64_w, i32_w]
      rfl
    refine take_ (i := 20) (N := some 54) (v := ?_) (a' := ?_) #[true, true, true, true, true, true, true, true, true, true, true, true, true, true, true, true, true, true, true, true, true, false, false, false, false, false, false, false, false, false, false, false, false, false, false, false, false, false, false, false, false, false, false, false, false, false, false, false, false, false, false, false, false, false, false, false, false, false, false, false, false, false, false] rfl rfl (take_ofW HT_.out HW_.out (by kernel_rfl)) (fun _ _ _ h => h) (Or.inl ⟨by rfl, ?_⟩) hHeld ?_ ?_
    rotate_left
    · intro w' hw'
      obtain ⟨s0, s1, s2, s3, s4, s5, s6, s7, s8, s9, s10, s11, s12, s13, s14, s15, s16, s17⟩ := HS.out w' hw'
      go_simp
      with_reducible rfl
    rotate_left
    · simp only [Act.put, List.setIfInBounds_toArray, List.set_cons_zero, List.set_cons_succ, i64_w, i32_w]
      rfl
    refine pure_ (i := 21) (N := some 55) (v := ?_) (a' := ?_) #[true, true, true, true, true, true, true, true, true, true, true, true, true, true, true, true, true, true, true, true, true, true, false, false, false, false, false, false, false, false, false, false, false, false, false, false, false, false, false, false, false, false, false, false, false, false, false, false, false, false, false, false, false, false, false, false, false, false, false, false, false, false, false] rfl rfl (any_of HT_.out (by kernel_rfl)) (fun _ _ _ h => h) (Or.inl ⟨by rfl, ?_⟩) ?_ ?_
    rotate_left
    · intro w'
      go_simp
      with_reducible rfl
    rotate_left
    · simp only [Act.put, List.setIfInBounds_toArray, List.set_cons_zero, List.set_cons_succ, i64_w, i32_w]
      rfl
    refine pure_ (i := 22) (N := some 56) (v := ?_) (a' := ?_) #[true, true, true, true, true, true, true, true, true, true, true, true, true, true, true, true, true, true, true, true, true, true, true, false, false, false, false, false, false, false, false, false, false, false, false, false, false, false, false, false, false, false, false, false, false, false, false, false, false, false, false, false, false, false, false, false, false, false, false, false, false, false, false] rfl rfl (any_of HT_.out (by kernel_rfl)) (fun _ _ _ h => h) (Or.inl ⟨by rfl, ?_⟩) ?_ ?_
    rotate_left
    · intro w'
      go_simp
      with_reducible rfl
    rotate_left
    · simp only [Act.put, List.setIfInBounds_toArray, List.set_cons_zero, List.set_cons_succ, i64_w, i32_w]
      rfl
    refine pure_ (i := 23) (N := some 57) (v := ?_) (a' := ?_) #[true, true, true, true, true, true, true, true, true, true, true, true, true, true, true, true, true, true, true, true, true, true, true, true, false, false, false, false, false, false, false, false, false, false, false, false, false, false, false, false, false, false, false, false, false, false, false, false, false, false, false, false, false, false, false, false, false, false, false, false, false, false, false] rfl rfl (any_of HT_.out (by kernel_rfl)) (fun _ _ _ h => h) (Or.inl ⟨by rfl, ?_⟩) ?_ ?_
    rotate_left
    · intro w'
      go_simp
      with_reducible rfl
    rotate_left
    · simp only [Act.put, List.setIfInBounds_toArray, List.set_cons_zero, List.set_cons_succ, i64_w, i32_w]
      rfl
    refine pure_ (i := 24) (N := some 58) (v := ?_) (a' := ?_) #[true, true, true, true, true, true, true, true, true, true, true, true, true, true, true, true, true, true, true, true, true, true, true, true, true, false, false, false, false, false, false, false, false, false, false, false, false, false, false, false, false, false, false, false, false, false, false, false, false, false, false, false, false, false, false, false, false, false, false, false, false, false, false] rfl rfl (any_of HT_.out (by kernel_rfl)) (fun _ _ _ h => h) (Or.inl ⟨by rfl, ?_⟩) ?_ ?_
    rotate_left
    · intro w'
      go_simp
      with_reducible rfl
    rotate_left
    · simp only [Act.put, List.setIfInBounds_toArray, List.set_cons_zero, List.set_cons_succ, i64_w, i32_w]
      rfl
    refine pure_ (i := 25) (N := some 59) (v := ?_) (a' := ?_) #[true, true, true, true, true, true, true, true, true, true, true, true, true, true, true, true, true, true, true, true, true, true, true, true, true, true, false, false, false, false, false, false, false, false, false, false, false, false, false, false, false, false, false, false, false, false, false, false, false, false, false, false, false, false, false, false, false, false, false, false, false, false, false] rfl rfl (any_of HT_.out (by kernel_rfl)) (fun _ _ _ h => h) (Or.inl ⟨by rfl, ?_⟩) ?_ ?_
    rotate_left
    · intro w'
      go_simp
      with_reducible rfl
    rotate_left
    · simp only [Act.put, List.setIfInBounds_toArray, List.set_cons_zero, List.set_cons_succ, i64_w, i32_w]
      rfl
    refine pure_ (i := 26) (N := some 60) (v := ?_) (a' := ?_) #[true, true, true, true, true, true, true, true, true, true, true, true, true, true, true, true, true, true, true, true, true, true, true, true, true, true, true, false, false, false, false, false, false, false, false, false, false, false, false, false, false, false, false, false, false, false, false, false, false, false, false, false, false, false, false, false, false, false, false, false, false, false, false] rfl rfl (any_of HT_.out (by kernel_rfl)) (fun _ _ _ h => h) (Or.inl ⟨by rfl, ?_⟩) ?_ ?_
    rotate_left
    · intro w'
      go_simp
      with_reducible rfl
    rotate_left
    · simp only [Act.put, List.setIfInBounds_toArray, List.set_cons_zero, List.set_cons_succ, i64_w, i32_w]
      rfl
    refine take_ (i := 27) (N := some 61) (v := ?_) (a' := ?_) #[true, true, true, true, true, true, true, true, true, true, true, true, true, true, true, true, true, true, true, true, true, true, true, true, true, true, true, true, false, false, false, false, false, false, false, false, false, false, false, false, false, false, false, false, false, false, false, false, false, false, false, false, false, false, false, false, false, false, false, false, false, false, false] rfl rfl (take_ofW HT_.out HW_.out (by kernel_rfl)) (fun _ _ _ h => h) (Or.inl ⟨by rfl, ?_⟩) hHeld ?_ ?_
    rotate_left
    · intro w' hw'
      obtain ⟨s0, s1, s2, s3, s4, s5, s6, s7, s8, s9, s10, s11, s12, s13, s14, s15, s16, s17⟩ := HS.out w' hw'
      go_simp
      with_reducible rfl
    rotate_left
    · simp only [Act.put, List.setIfInBounds_toArray, List.set_cons_zero, List.set_cons_succ, i64_w, i32_w]
      rfl
    refine pure_ (i := 28) (N := some 62) (v := ?_) (a' := ?_) #[true, true, true, true, true, true, true, true, true, true, true, true, true, true, true, true, true, true, true, true, true, true, true, true, true, true, true, true, true, false, false, false, false, false, false, false, false, false, false, false, false, false, false, false, false, false, false, false, false, false, false, false, false, false, false, false, false, false, false, false, false, false, false] rfl rfl (any_of HT_.out (by kernel_rfl)) (fun _ _ _ h => h) (Or.inl ⟨by rfl, ?_⟩) ?_ ?_
    rotate_left
    · intro w'
      go_simp
      with_reducible rfl
    rotate_left
    · simp only [Act.put, List.setIfInBounds_toArray, List.set_cons_zero, List.set_cons_succ, i64_w, i32_w]
      rfl
    refine pure_ (i := 29) (N := some 63) (v := ?_) (a' := ?_) #[true, true, true, true, true, true, true, true, true, true, true, true, true, true, true, true, true, true, true, true, true, true, true, true, true, true, true, true, true, true, false, false, false, false, false, false, false, false, false, false, false, false, false, false, false, false, false, false, false, false, false, false, false, false, false, false, false, false, false, false, false, false, false] rfl rfl (any_of HT_.out (by kernel_rfl)) (fun _ _ _ h => h) (Or.inl ⟨by rfl, ?_⟩) ?_ ?_
    rotate_left
    · intro w'
      go_simp
      with_reducible rfl
    rotate_left
    · simp only [Act.put, List.setIfInBounds_toArray, List.set_cons_zero, List.set_cons_succ, i64_w, i32_w]
      rfl
    refine pure_ (i := 30) (N := some 64) (v := ?_) (a' := ?_) #[true, true, true, true, true, true, true, true, true, true, true, true, true, true, true, true, true, true, true, true, true, true, true, true, true, true, true, true, true, true, true, false, false, false, false, false, false, false, false, false, false, false, false, false, false, false, false, false, false, false, false, false, false, false, false, false, false, false, false, false, false, false, false] rfl rfl (any_of HT_.out (by kernel_rfl)) (fun _ _ _ h => h) (Or.inl ⟨by rfl, ?_⟩) ?_ ?_
    rotate_left
    · intro w'
      go_simp
      with_reducible rfl
    rotate_left
    · simp only [Act.put, List.setIfInBounds_toArray, List.set_cons_zero, List.set_cons_succ, i64_w, i32_w]
      rfl
    refine pure_ (i := 31) (N := some 65) (v := ?_) (a' := ?_) #[true, true, true, true, true, true, true, true, true, true, true, true, true, true, true, true, true, true, true, true, true, true, true, true, true, true, true, true, true, true, true, true, false, false, false, false, false, false, false, false, false, false, false, false, false, false, false, false, false, false, false, false, false, false, false, false, false, false, false, false, false, false, false] rfl rfl (any_of HT_.out (by kernel_rfl)) (fun _ _ _ h => h) (Or.inl ⟨by rfl, ?_⟩) ?_ ?_
    rotate_left
    · intro w'
      go_simp
      with_reducible rfl
    rotate_left
    · simp only [Act.put, List.setIfInBounds_toArray, List.set_cons_zero, List.set_cons_succ, i64_w, i32_w]
      rfl
    refine pure_ (i := 32) (N := some 66) (v := ?_) (a' := ?_) #[true, true, true, true, true, true, true, true, true, true, true, true, true, true, true, true, true, true, true, true, true, true, true, true, true, true, true, true, true, true, true, true, true, false, false, false, false, false, false, false, false, false, false, false, false, false, false, false, false, false, false, false, false, false, false, false, false, false, false, false, false, false, false] rfl rfl (any_of HT_.out (by kernel_rfl)) (fun _ _ _ h => h) (Or.inl ⟨by rfl, ?_⟩) ?_ ?_
    rotate_left
    · intro w'
      go_simp
      with_reducible rfl
    rotate_left
    · simp only [Act.put, List.setIfInBounds_toArray, List.set_cons_zero, List.set_cons_succ, i64_w, i32_w]
      rfl
    refine pure_ (i := 33) (N := some 67) (v := ?_) (a' := ?_) #[true, true, true, true, true, true, true, true, true, true, true, true, true, true, true, true, true, true, true, true, true, true, true, true, true, true, true, true, true, true, true, true, true, true, false, false, false, false, false, false, false, false, false, false, false, false, false, false, false, false, false, false, false, false, false, false, false, false, false, false, false, false, false] rfl rfl (any_of HT_.out (by kernel_rfl)) (fun _ _ _ h => h) (Or.inl ⟨by rfl, ?_⟩) ?_ ?_
    rotate_left
    · intro w'
      go_simp
      with_reducible rfl
    rotate_left
    · simp only [Act.put, List.setIfInBounds_toArray, List.set_cons_zero, List.set_cons_succ, i64_w, i32_w]
      rfl
    refine take_ (i := 34) (N := some 68) (v := ?_) (a' := ?_) #[true, true, true, true, true, true, true, true, true, true, true, true, true, true, true, true, true, true, true, true, true, true, true, true, true, true, true, true, true, true, true, true, true, true, true, false, false, false, false, false, false, false, false, false, false, false, false, false, false, false, false, false, false, false, false, false, false, false, false, false, false, false, false] rfl rfl (take_ofW HT_.out HW_.out (by kernel_rfl)) (fun _ _ _ h => h) (Or.inl ⟨by rfl, ?_⟩) hHeld ?_ ?_
    rotate_left
    · intro w' hw'
      obtain ⟨s0, s1, s2, s3, s4, s5, s6, s7, s8, s9, s10, s11, s12, s13, s14, s15, s16, s17⟩ := HS.out w' hw'
      go_simp
      with_reducible rfl
    rotate_left
    · simp only [Act.put, List.setIfInBounds_toArray, List.set_cons_zero, List.set_cons_succ, i64_w, i32_w]
      rfl
    refine pure_ (i := 35) (N := some 69) (v := ?_) (a' := ?_) #[true, true, true, true, true, true, true, true, true, true, true, true, true, true, true, true, true, true, true, true, true, true, true, true, true, true, true, true, true, true, true, true, true, true, true, true, false, false, false, false, false, false, false, false, false, false, false, false, false, false, false, false, false, false, false, false, false, false, false, false, false, false, false] rfl rfl (any_of HT_.out (by kernel_rfl)) (fun _ _ _ h => h) (Or.inl ⟨by rfl, ?_⟩) ?_ ?_
    rotate_left
    · intro w'
      go_simp
      with_reducible rfl
    rotate_left
    · simp only [Act.put, List.setIfInBounds_toArray, List.set_cons_zero, List.set_cons_succ, i64_w, i32_w]
      rfl
    refine pure_ (i := 36) (N := some 70) (v := ?_) (a' := ?_) #[true, true, true, true, true, true, true, true, true, true, true, true, true, true, true, true, true, true, true, true, true, true, true, true, true, true, true, true, true, true, true, true, true, true, true, true, true, false, false, false, false, false, false, false, false, false, false, false, false, false, false, false, false, false, false, false, false, false, false, false, false, false, false] rfl rfl (any_of HT_.out (by kernel_rfl)) (fun _ _ _ h => h) (Or.inl ⟨by rfl, ?_⟩) ?_ ?_
    rotate_left
    · intro w'
      go_simp
      with_reducible rfl
    rotate_left
    · simp only [Act.put, List.setIfInBounds_toArray, List.set_cons_zero, List.set_cons_succ, i64_w, i32_w]
      rfl
    refine pure_ (i := 37) (N := some 71) (v := ?_) (a' := ?_) #[true, true, true, true, true, true, true, true, true, true, true, true, true, true, true, true, true, true, true, true, true, true, true, true, true, true, true, true, true, true, true, true, true, true, true, true, true, true, false, false, false, false, false, false, false, false, false, false, false, false, false, false, false, false, false, false, false, false, false, false, false, false, false] rfl rfl (any_of HT_.out (by kernel_rfl)) (fun _ _ _ h => h) (Or.inl ⟨by rfl, ?_⟩) ?_ ?_
    rotate_left
    · intro w'
      go_simp
      with_reducible rfl
    rotate_left
    · simp only [Act.put, List.setIfInBounds_toArray, List.set_cons_zero, List.set_cons_succ, i64_w, i32_w]
      rfl
    refine pure_ (i := 38) (N := some 72) (v := ?_) (a' := ?_) #[true, true, true, true, true, true, true, true, true, true, true, true, true, true, true, true, true, true, true, true, true, true, true, true, true, true, true, true, true, true, true, true, true, true, true, true, true, true, true, false, false, false, false, false, false, false, false, false, false, false, false, false, false, false, false, false, false, false, false, false, false, false, false] rfl rfl (any_of HT_.out (by kernel_rfl)) (fun _ _ _ h => h) (Or.inl ⟨by rfl, ?_⟩) ?_ ?_
    rotate_left
    · intro w'
      go_simp
      with_reducible rfl
    rotate_left
    · simp only [Act.put, List.setIfInBounds_toArray, List.set_cons_zero, List.set_cons_succ, i64_w, i32_w]
      rfl
    refine pure_ (i := 39) (N := some 73) (v := ?_) (a' := ?_) #[true, true, true, true, true, true, true, true, true, true, true, true, true, true, true, true, true, true, true, true, true, true, true, true, true, true, true, true, true, true, true, true, true, true, true, true, true, true, true, true, false, false, false, false, false, false, false, false, false, false, false, false, false, false, false, false, false, false, false, false, false, false, false] rfl rfl (any_of HT_.out (by kernel_rfl)) (fun _ _ _ h => h) (Or.inl ⟨by rfl, ?_⟩) ?_ ?_
    rotate_left
    · intro w'
      go_simp
      with_reducible rfl
    rotate_left
    · simp only [Act.put, List.setIfInBounds_toArray, List.set_cons_zero, List.set_cons_succ, i64_w, i32_w]
      rfl
    refine pure_ (i := 40) (N := some 74) (v := ?_) (a' := ?_) #[true, true, true, true, true, true, true, true, true, true, true, true, true, true, true, true, true, true, true, true, true, true, true, true, true, true, true, true, true, true, true, true, true, true, true, true, true, true, true, true, true, false, false, false, false, false, false, false, false, false, false, false, false, false, false, false, false, false, false, false, false, false, false] rfl rfl (any_of HT_.out (by kernel_rfl)) (fun _ _ _ h => h) (Or.inl ⟨by rfl, ?_⟩) ?_ ?_
    rotate_left
    · intro w'
      go_simp
      with_reducible rfl
    rotate_left
    · simp only [Act.put, List.setIfInBounds_toArray, List.set_cons_zero, List.set_cons_succ, i64_w, i32_w]
      rfl
    refine pure_ (i := 41) (N := some 75) (v := ?_) (a' := ?_) #[true, true, true, true, true, true, true, true, true, true, true, true, true, true, true, true, true, true, true, true, true, true, true, true, true, true, true, true, true, true, true, true, true, true, true, true, true, true, true, true, true, true, false, false, false, false, false, false, false, false, false, false, false, false, false, false, false, false, false, false, false, false, false] rfl rfl (any_of HT_.out (by kernel_rfl)) (fun _ _ _ h => h) (Or.inl ⟨by rfl, ?_⟩) ?_ ?_
    rotate_left
    · intro w'
      go_simp
      with_reducible rfl
    rotate_left
    · simp only [Act.put, List.setIfInBounds_toArray, List.set_cons_zero, List.set_cons_succ, i64_w, i32_w]
      rfl
    refine pure_ (i := 42) (N := some 76) (v := ?_) (a' := ?_) #[true, true, true, true, true, true, true, true, true, true, true, true, true, true, true, true, true, true, true, true, true, true, true, true, true, true, true, true, true, true, true, true, true, true, true, true, true, true, true, true, true, true, true, false, false, false, false, false, false, false, false, false, false, false, false, false, false, false, false, false, false, false, false] rfl rfl (any_of HT_.out (by kernel_rfl)) (fun _ _ _ h => h) (Or.inl ⟨by rfl, ?_⟩) ?_ ?_
    rotate_left
    · intro w'
      go_simp
      with_reducible rfl
    rotate_left
    · simp only [Act.put, List.setIfInBounds_toArray, List.set_cons_zero, List.set_cons_succ, i64_w, i32_w]
      rfl
    refine pure_ (i := 43) (N := some 77) (v := ?_) (a' := ?_) #[true, true, true, true, true, true, true, true, true, true, true, true, true, true, true, true, true, true, true, true, true, true, true, true, true, true, true, true, true, true, true, true, true, true, true, true, true, true, true, true, true, true, true, true, false, false, false, false, false, false, false, false, false, false, false, false, false, false, false, false, false, false, false] rfl rfl (any_of HT_.out (by kernel_rfl)) (fun _ _ _ h => h) (Or.inl ⟨by rfl, ?_⟩) ?_ ?_
    rotate_left
    · intro w'
      go_simp
      with_reducible rfl
    rotate_left
    · simp only [Act.put, List.setIfInBounds_toArray, List.set_cons_zero, List.set_cons_succ, i64_w, i32_w]
      rfl
    refine pure_ (i := 44) (N := some 78) (v := ?_) (a' := ?_) #[true, true, true, true, true, true, true, true, true, true, true, true, true, true, true, true, true, true, true, true, true, true, true, true, true, true, true, true, true, true, true, true, true, true, true, true, true, true, true, true, true, true, true, true, true, false, false, false, false, false, false, false, false, false, false, false, false, false, false, false, false, false, false] rfl rfl (any_of HT_.out (by kernel_rfl)) (fun _ _ _ h => h) (Or.inl ⟨by rfl, ?_⟩) ?_ ?_
    rotate_left
    · intro w'
      go_simp
      with_reducible rfl
    rotate_left
    · simp only [Act.put, List.setIfInBounds_toArray, List.set_cons_zero, List.set_cons_succ, i64_w, i32_w]
      rfl
    refine pure_ (i := 45) (N := some 79) (v := ?_) (a' := ?_) #[true, true, true, true, true, true, true, true, true, true, true, true, true, true, true, true, true, true, true, true, true, true, true, true, true, true, true, true, true, true, true, true, true, true, true, true, true, true, true, true, true, true, true, true, true, true, false, false, false, false, false, false, false, false, false, false, false, false, false, false, false, false, false] rfl rfl (any_of HT_.out (by kernel_rfl)) (fun _ _ _ h => h) (Or.inl ⟨by rfl, ?_⟩) ?_ ?_
    rotate_left
    · intro w'
      go_simp
      with_reducible rfl
    rotate_left
    · simp only [Act.put, List.setIfInBounds_toArray, List.set_cons_zero, List.set_cons_succ, i64_w, i32_w]
      rfl
    refine pure_ (i := 46) (N := some 80) (v := ?_) (a' := ?_) #[true, true, true, true, true, true, true, true, true, true, true, true, true, true, true, true, true, true, true, true, true, true, true, true, true, true, true, true, true, true, true, true, true, true, true, true, true, true, true, true, true, true, true, true, true, true, true, false, false, false, false, false, false, false, false, false, false, false, false, false, false, false, false] rfl rfl (any_of HT_.out (by kernel_rfl)) (fun _ _ _ h => h) (Or.inl ⟨by rfl, ?_⟩) ?_ ?_
    rotate_left
    · intro w'
      go_simp
      with_reducible rfl
    rotate_left
    · simp only [Act.put, List.setIfInBounds_toArray, List.set_cons_zero, List.set_cons_succ, i64_w, i32_w]
      rfl
    refine pure_ (i := 47) (N := some 81) (v := ?_) (a' := ?_) #[true, true, true, true, true, true, true, true, true, true, true, true, true, true, true, true, true, true, true, true, true, true, true, true, true, true, true, true, true, true, true, true, true, true, true, true, true, true, true, true, true, true, true, true, true, true, true, true, false, false, false, false, false, false, false, false, false, false, false, false, false, false, false] rfl rfl (any_of HT_.out (by kernel_rfl)) (fun _ _ _ h => h) (Or.inl ⟨by rfl, ?_⟩) ?_ ?_
    rotate_left
    · intro w'
      go_simp
      with_reducible rfl
    rotate_left
    · simp only [Act.put, List.setIfInBounds_toArray, List.set_cons_zero, List.set_cons_succ, i64_w, i32_w]
      rfl
    refine pure_ (i := 48) (N := some 82) (v := ?_) (a' := ?_) #[true, true, true, true, true, true, true, true, true, true, true, true, true, true, true, true, true, true, true, true, true, true, true, true, true, true, true, true, true, true, true, true, true, true, true, true, true, true, true, true, true, true, true, true, true, true, true, true, true, false, false, false, false, false, false, false, false, false, false, false, false, false, false] rfl rfl (any_of HT_.out (by kernel_rfl)) (fun _ _ _ h => h) (Or.inl ⟨by rfl, ?_⟩) ?_ ?_
    rotate_left
    · intro w'
      go_simp
      with_reducible rfl
    rotate_left
    · simp only [Act.put, List.setIfInBounds_toArray, List.set_cons_zero, List.set_cons_succ, i64_w, i32_w]
      rfl
    refine pure_ (i := 49) (N := some 83) (v := ?_) (a' := ?_) #[true, true, true, true, true, true, true, true, true, true, true, true, true, true, true, true, true, true, true, true, true, true, true, true, true, true, true, true, true, true, true, true, true, true, true, true, true, true, true, true, true, true, true, true, true, true, true, true, true, true, false, false, false, false, false, false, false, false, false, false, false, false, false] rfl rfl (any_of HT_.out (by kernel_rfl)) (fun _ _ _ h => h) (Or.inl ⟨by rfl, ?_⟩) ?_ ?_
    rotate_left
    · intro w'
      go_simp
      with_reducible rfl
    rotate_left
    · simp only [Act.put, List.setIfInBounds_toArray, List.set_cons_zero, List.set_cons_succ, i64_w, i32_w]
      rfl
    refine take_ (i := 50) (N := some 84) (v := ?_) (a' := ?_) #[true, true, true, true, true, true, true, true, true, true, true, true, true, true, true, true, true, true, true, true, true, true, true, true, true, true, true, true, true, true, true, true, true, true, true, true, true, true, true, true, true, true, true, true, true, true, true, true, true, true, true, false, false, false, false, false, false, false, false, false, false, false, false] rfl rfl (take_ofW HT_.out HW_.out (by kernel_rfl)) (fun _ _ _ h => h) (Or.inl ⟨by rfl, ?_⟩) hHeld ?_ ?_
    rotate_left
    · intro w' hw'
      obtain ⟨s0, s1, s2, s3, s4, s5, s6, s7, s8, s9, s10, s11, s12, s13, s14, s15, s16, s17⟩ := HS.out w' hw'
      go_simp
      with_reducible rfl
    rotate_left
    · simp only [Act.put, List.setIfInBounds_toArray, List.set_cons_zero, List.set_cons_succ, i64_w, i32_w]
      rfl
    refine take_ (i := 51) (N := some 85) (v := ?_) (a' := ?_) #[true, true, true, true, true, true, true, true, true, true, true, true, true, true, true, true, true, true, true, true, true, true, true, true, true, true, true, true, true, true, true, true, true, true, true, true, true, true, true, true, true, true, true, true, true, true, true, true, true, true, true, true, false, false, false, false, false, false, false, false, false, false, false] rfl rfl (take_ofW HT_.out HW_.out (by kernel_rfl)) (fun _ _ _ h => h) (Or.inl ⟨by rfl, ?_⟩) hHeld ?_ ?_
    rotate_left
    · intro w' hw'
      obtain ⟨s0, s1, s2, s3, s4, s5, s6, s7, s8, s9, s10, s11, s12, s13, s14, s15, s16, s17⟩ := HS.out w' hw'
      go_simp
      with_reducible rfl
    rotate_left
    · simp only [Act.put, List.setIfInBounds_toArray, List.set_cons_zero, List.set_cons_succ, i64_w, i32_w]
      rfl
    refine pure_ (i := 52) (N := some 86) (v := ?_) (a' := ?_) #[true, true, true, true, true, true, true, true, true, true, true, true, true, true, true, true, true, true, true, true, true, true, true, true, true, true, true, true, true, true, true, true, true, true, true, true, true, true, true, true, true, true, true, true, true, true, true, true, true, true, true, true, true, false, false, false, false, false, false, false, false, false, false] rfl rfl (any_of HT_.out (by kernel_rfl)) (fun _ _ _ h => h) (Or.inl ⟨by rfl, ?_⟩) ?_ ?_
    rotate_left
    · intro w'
      go_simp
      with_reducible rfl
    rotate_left
    · simp only [Act.put, List.setIfInBounds_toArray, List.set_cons_zero, List.set_cons_succ, i64_w, i32_w]
      rfl
    refine pure_ (i := 53) (N := some 87) (v := ?_) (a' := ?_) #[true, true, true, true, true, true, true, true, true, true, true, true, true, true, true, true, true, true, true, true, true, true, true, true, true, true, true, true, true, true, true, true, true, true, true, true, true, true, true, true, true, true, true, true, true, true, true, true, true, true, true, true, true, true, false, false, false, false, false, false, false, false, false] rfl rfl (any_of HT_.out (by kernel_rfl)) (fun _ _ _ h => h) (Or.inl ⟨by rfl, ?_⟩) ?_ ?_
    rotate_left
    · intro w'
      go_simp
      with_reducible rfl
    rotate_left
    · simp only [Act.put, List.setIfInBounds_toArray, List.set_cons_zero, List.set_cons_succ, i64_w, i32_w]
      rfl
    refine pure_ (i := 54) (N := some 88) (v := ?_) (a' := ?_) #[true, true, true, true, true, true, true, true, true, true, true, true, true, true, true, true, true, true, true, true, true, true, true, true, true, true, true, true, true, true, true, true, true, true, true, true, true, true, true, true, true, true, true, true, true, true, true, true, true, true, true, true, true, true, true, false, false, false, false, false, false, false, false] rfl rfl (any_of HT_.out (by kernel_rfl)) (fun _ _ _ h => h) (Or.inl ⟨by rfl, ?_⟩) ?_ ?_
    rotate_left
    · intro w'
      go_simp
      with_reducible rfl
    rotate_left
    · simp only [Act.put, List.setIfInBounds_toArray, List.set_cons_zero, List.set_cons_succ, i64_w, i32_w]
      rfl
    refine pure_ (i := 55) (N := some 89) (v := ?_) (a' := ?_) #[true, true, true, true, true, true, true, true, true, true, true, true, true, true, true, true, true, true, true, true, true, true, true, true, true, true, true, true, true, true, true, true, true, true, true, true, true, true, true, true, true, true, true, true, true, true, true, true, true, true, true, true, true, true, true, true, false, false, false, false, false, false, false] rfl rfl (any_of HT_.out (by kernel_rfl)) (fun _ _ _ h => h) (Or.inl ⟨by rfl, ?_⟩) ?_ ?_
    rotate_left
    · intro w'
      go_simp
      with_reducible rfl
    rotate_left
    · simp only [Act.put, List.setIfInBounds_toArray, List.set_cons_zero, List.set_cons_succ, i64_w, i32_w]
      rfl
    refine pure_ (i := 56) (N := some 90) (v := ?_) (a' := ?_) #[true, true, true, true, true, true, true, true, true, true, true, true, true, true, true, true, true, true, true, true, true, true, true, true, true, true, true, true, true, true, true, true, true, true, true, true, true, true, true, true, true, true, true, true, true, true, true, true, true, true, true, true, true, true, true, true, true, false, false, false, false, false, false] rfl rfl (any_of HT_.out (by kernel_rfl)) (fun _ _ _ h => h) (Or.inl ⟨by rfl, ?_⟩) ?_ ?_
    rotate_left
    · intro w'
      go_simp
      with_reducible rfl
    rotate_left
    · simp only [Act.put, List.setIfInBounds_toArray, List.set_cons_zero, List.set_cons_succ, i64_w, i32_w]
      rfl
    refine pure_ (i := 57) (N := some 91) (v := ?_) (a' := ?_) #[true, true, true, true, true, true, true, true, true, true, true, true, true, true, true, true, true, true, true, true, true, true, true, true, true, true, true, true, true, true, true, true, true, true, true, true, true, true, true, true, true, true, true, true, true, true, true, true, true, true, true, true, true, true, true, true, true, true, false, false, false, false, false] rfl rfl (any_of HT_.out (by kernel_rfl)) (fun _ _ _ h => h) (Or.inl ⟨by rfl, ?_⟩) ?_ ?_
    rotate_left
    · intro w'
      go_simp
      with_reducible rfl
    rotate_left
    · simp only [Act.put, List.setIfInBounds_toArray, List.set_cons_zero, List.set_cons_succ, i64_w, i32_w]
      rfl
    refine take_ (i := 58) (N := some 92) (v := ?_) (a' := ?_) #[true, true, true, true, true, true, true, true, true, true, true, true, true, true, true, true, true, true, true, true, true, true, true, true, true, true, true, true, true, true, true, true, true, true, true, true, true, true, true, true, true, true, true, true, true, true, true, true, true, true, true, true, true, true, true, true, true, true, true, false, false, false, false] rfl rfl (take_ofW HT_.out HW_.out (by kernel_rfl)) (fun _ _ _ h => h) (Or.inl ⟨by rfl, ?_⟩) hHeld ?_ ?_
    rotate_left
    · intro w' hw'
      obtain ⟨s0, s1, s2, s3, s4, s5, s6, s7, s8, s9, s10, s11, s12, s13, s14, s15, s16, s17⟩ := HS.out w' hw'
      go_simp
      with_reducible rfl
    rotate_left
    · simp only [Act.put, List.setIfInBounds_toArray, List.set_cons_zero, List.set_cons_succ, i64_w, i32_w]
      rfl
    refine one_ (i := 59) (N := some 93) #[true, true, true, true, true, true, true, true, true, true, true, true, true, true, true, true, true, true, true, true, true, true, true, true, true, true, true, true, true, true, true, true, true, true, true, true, true, true, true, true, true, true, true, true, true, true, true, true, true, true, true, true, true, true, true, true, true, true, true, true, false, false, false] rfl rfl (one_of HT_.out (by kernel_rfl)) (by decide) (fun K hK => ?_)
    refine goes_ Try.func12 (by kernel_rfl) rfl #[.agg #[.int .i64 3, .int .i64 2, .string ⟨#[]⟩]] (by rfl) rfl rfl (by (try simp only [List.map_toArray, List.map_cons, List.map_nil]); first | done | rfl) ?_
    refine (format' _).mono ?_
    rintro e wk ⟨rfl, hb⟩
    refine ⟨_, rfl, ?_⟩
    have hS := trans2 hb hHeld
    clear hHeld hb
    refine hK.out _ _ hS (fun hHeld => ?_)
    clear hK K hS
    refine norm_ (a' := ?_) ?_ ?_
    rotate_left
    · show Act.put _ (some 93) _ = _
      simp only [Act.put, List.setIfInBounds_toArray, List.set_cons_zero, List.set_cons_succ, i64_w, i32_w]
      rfl
    refine pure_ (i := 60) (N := some 94) (v := ?_) (a' := ?_) #[true, true, true, true, true, true, true, true, true, true, true, true, true, true, true, true, true, true, true, true, true, true, true, true, true, true, true, true, true, true, true, true, true, true, true, true, true, true, true, true, true, true, true, true, true, true, true, true, true, true, true, true, true, true, true, true, true, true, true, true, true, false, false] rfl rfl (any_of HT_.out (by kernel_rfl)) (fun _ _ _ h => h) (Or.inl ⟨by rfl, ?_⟩) ?_ ?_
    rotate_left
    · intro w'
      go_simp
      with_reducible rfl
    rotate_left
    · simp only [Act.put, List.setIfInBounds_toArray, List.set_cons_zero, List.set_cons_succ, i64_w, i32_w]
      rfl
    refine pure_ (i := 61) (N := some 95) (v := ?_) (a' := ?_) #[true, true, true, true, true, true, true, true, true, true, true, true, true, true, true, true, true, true, true, true, true, true, true, true, true, true, true, true, true, true, true, true, true, true, true, true, true, true, true, true, true, true, true, true, true, true, true, true, true, true, true, true, true, true, true, true, true, true, true, true, true, true, false] rfl rfl (any_of HT_.out (by kernel_rfl)) (fun _ _ _ h => h) (Or.inl ⟨by rfl, ?_⟩) ?_ ?_
    rotate_left
    · intro w'
      go_simp
      with_reducible rfl
    rotate_left
    · simp only [Act.put, List.setIfInBounds_toArray, List.set_cons_zero, List.set_cons_succ, i64_w, i32_w]
      rfl
    refine pure_ (i := 62) (N := some 0) (v := ?_) (a' := ?_) #[true, true, true, true, true, true, true, true, true, true, true, true, true, true, true, true, true, true, true, true, true, true, true, true, true, true, true, true, true, true, true, true, true, true, true, true, true, true, true, true, true, true, true, true, true, true, true, true, true, true, true, true, true, true, true, true, true, true, true, true, true, true, true] rfl rfl (any_of HT_.out (by kernel_rfl)) (fun _ _ _ h => h) (Or.inl ⟨by rfl, ?_⟩) ?_ ?_
    rotate_left
    · intro w'
      go_simp
      with_reducible rfl
    rotate_left
    · simp only [Act.put, List.setIfInBounds_toArray, List.set_cons_zero, List.set_cons_succ, i64_w, i32_w]
      rfl
    refine done_ (done_of HT_.out (by kernel_rfl)) ?_
    go_wp2_with fail
    go_ret
    exact ⟨rfl, trans2 hHeld HW.out⟩
end Go.Proofs.Ytigkoknabliboaa.PAll
