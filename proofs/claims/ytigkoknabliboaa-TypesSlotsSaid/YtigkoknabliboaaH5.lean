/- The program's types.Scalars: what its calls come to. Under no condition. -/
import Derived.Test.YtigkoknabliboaaH4
import Derived.Laws.IdiomCopy
import Derived.Laws.CopyOwn
import Derived.StillTailTactics
import Derived.WalkLawsBesides
namespace Go.Proofs.Ytigkoknabliboaa.PAll
open Go.RowKit Go.Proofs.YtigkoknabliboaaW.PrintWords Go.Proofs.YtigkoknabliboaaW.PrintLast Go.Proofs.YtigkoknabliboaaW.PrintMore
set_option linter.unusedVariables false
set_option linter.unusedSimpArgs false

set_option maxHeartbeats 2000000 in
set_option maxRecDepth 100000 in
theorem mul_small (n : Int) (w : World) (h0 : 1 ≤ n) (h1 : n ≤ 8) : Calls Try.prog 89 #[.int .u64 1, .int .u64 n] w fun e w' => e = .returned (.tuple #[.int .u64 0, .int .u64 n]) ∧ w = w' := by
  have hn : n = 1 ∨ n = 2 ∨ n = 3 ∨ n = 4 ∨ n = 5 ∨ n = 6 ∨ n = 7 ∨ n = 8 := by omega
  clear h0 h1
  rcases hn with rfl | rfl | rfl | rfl | rfl | rfl | rfl | rfl <;>
  · go_enter Try.func89, Try.ntmps89
    go_wp2
    go_ret2
    exact ⟨by rfl, rfl⟩

/-! copying elements of several cells -/
section
variable {P : Program} {w : World} {ops : Array Oper} {rest : List Oper} {o : Oper} {a : Act} {Q : Exit → Act → World → Prop}
theorem run_copy_rowK (sz n : Nat) (dT sT ty elem : TypeId) (g off dLen dCap : Nat) (ad : Addr) (sLen sCap : Nat) (cur : Array Value) (t : TypeId) (cs : List Value)
    (hu : P.underlying dT = some (.slice elem)) (hs : (P.info? elem).map (·.size) = some sz) (hg : w.heap[g]? = some (.cells cur t (0, 0))) (hn : n = Nat.min sLen dLen) (hcs : cs.length = n * sz)
    (hsrc : ∀ j v, cs[j]? = some v → w.cell? (ad.add j) = some v) (hfit : off + cs.length ≤ cur.size) (h1 : ∀ v ∈ cs, v.oneCell' = true) :
    (Builtin.copy_ #[dT, sT] ty #[.slice (some ⟨g, off, none⟩) dLen dCap, .slice (some ad) sLen sCap]).run P w = .ok (goInt n) (w.setRow g (cur.toList.take off ++ cs ++ cur.toList.drop (off + cs.length)).toArray) := by
  have hl := run_loadCells_list (P := P) w ad cs hsrc
  have hst := run_storeCells_at P g off t cs 0 cur w hg (by simpa using hfit) h1
  cases hq : P.info? elem with
  | none => simp [hq] at hs
  | some i =>
    have hi : i.size = sz := by simpa [hq] using hs
    rw [hcs] at hl
    simp [Builtin.copy_, run_underlying hu, Builtin.lenOf, Builtin.firstCells, sizeOf, typeInfo, hq, hi, ← hn, hl, hst]
theorem wpList_copyK (hgd : o.guard = none) (sz n : Nat) (d s : Operand) (dT sT : TypeId) (ho : o.op = .call { callee := .builtin .copy, args := #[d, s], argTypes := #[dT, sT] }) (elem : TypeId) (hu : P.underlying dT = some (.slice elem)) (hsz : (P.info? elem).map (·.size) = some sz)
    (g off dLen dCap : Nat) (ad : Addr) (sLen sCap : Nat) (hd : a.eval d = .slice (some ⟨g, off, none⟩) dLen dCap) (hs : a.eval s = .slice (some ad) sLen sCap)
    (cur : List Value) (t : TypeId) (hg : w.heap[g]? = some (.cells cur.toArray t (0, 0))) (cs : List Value) (hn : n = Nat.min sLen dLen) (hcs : cs.length = n * sz)
    (hsrc : ∀ j v, cs[j]? = some v → w.cell? (ad.add j) = some v) (hfit : off + cs.length ≤ cur.length) (h1 : ∀ v ∈ cs, v.oneCell' = true) (B : Nat) (w0 : World) (hb : Below B w0 w) (hBg : B ≤ g)
    (h : ∀ w', Aside0 (w'.heap[g]? = some (.cells (splice cur off cs).toArray t (0, 0))) → Aside0 (Below B w0 w') → Aside0 (w'.heap.size = w.heap.size) → wpList P ops Q rest (a.put o.dst (goInt n)) w') : wpList P ops Q (o :: rest) a w := by
  refine wpList_plain hgd fun K hK => ?_
  have hrun := run_copy_rowK (P := P) sz n dT sT o.type elem g off dLen dCap ad sLen sCap cur.toArray t cs hu hsz hg hn hcs hsrc (by simpa using hfit) h1
  unfold Oper.wp
  simp [execOp, ho, resolve, invoke, builtin, hd, hs, hrun, Result.andThen]
  exact hK _ _ (h _ ⟨by simpa [splice] using setRow_heap w g _ _ t _ hg⟩ ⟨below_setRow hb hBg _⟩ ⟨by simp [World.setRow]⟩)
theorem step_copyK {K : Act → World → Prop} {E : Prop} (hgd : o.guard = none) (sz n : Nat) (d s : Operand) (dT sT : TypeId) (ho : o.op = .call { callee := .builtin .copy, args := #[d, s], argTypes := #[dT, sT] }) (elem : TypeId) (hu : P.underlying dT = some (.slice elem)) (hsz : (P.info? elem).map (·.size) = some sz)
    (g off dLen dCap : Nat) (ad : Addr) (sLen sCap : Nat) (hd : a.eval d = .slice (some ⟨g, off, none⟩) dLen dCap) (hs : a.eval s = .slice (some ad) sLen sCap)
    (cur : List Value) (t : TypeId) (hg : w.heap[g]? = some (.cells cur.toArray t (0, 0))) (cs : List Value) (hn : n = Nat.min sLen dLen) (hcs : cs.length = n * sz)
    (hsrc : ∀ j v, cs[j]? = some v → w.cell? (ad.add j) = some v) (hfit : off + cs.length ≤ cur.length) (h1 : ∀ v ∈ cs, v.oneCell' = true) (B : Nat) (w0 : World) (hb : Below B w0 w) (hBg : B ≤ g)
    (h : ∀ w', Aside0 (w'.heap[g]? = some (.cells (splice cur off cs).toArray t (0, 0))) → Aside0 (Below B w0 w') → Aside0 (w'.heap.size = w.heap.size) → K (a.put o.dst (goInt n)) w') : if Region.wanted o (yielded ops a.tmps) = true then Oper.wp P o a w K Q else E := by
  have hw : Region.wanted o (yielded ops a.tmps) = true := by simp [Region.wanted, hgd]
  rw [if_pos hw]
  have hrun := run_copy_rowK (P := P) sz n dT sT o.type elem g off dLen dCap ad sLen sCap cur.toArray t cs hu hsz hg hn hcs hsrc (by simpa using hfit) h1
  unfold Oper.wp
  simp [execOp, ho, resolve, invoke, builtin, hd, hs, hrun, Result.andThen]
  exact h _ ⟨by simpa [splice] using setRow_heap w g _ _ t _ hg⟩ ⟨below_setRow hb hBg _⟩ ⟨by simp [World.setRow]⟩
end

/-- m ones, and zeros up to n -/
def X27 : List Value := [.int .i64 1, .int .i64 0, .string ⟨#[]⟩]
def Z27 : List Value := [.int .i64 0, .int .i64 0, .string ⟨#[]⟩]
def fill (n m : Nat) : List Value := (List.replicate m X27).flatten ++ (List.replicate (n - m) Z27).flatten
theorem flat_len (m : Nat) (L : List Value) : (List.replicate m L).flatten.length = m * L.length := by simp
theorem fill_len (n m : Nat) (h : m ≤ n) : (fill n m).length = n * 3 := by
  unfold fill
  rw [List.length_append, flat_len, flat_len]
  show m * 3 + (n - m) * 3 = n * 3
  omega
theorem fill_step (n m k : Nat) (h : m + k ≤ n) : splice (fill n m) (m * 3) (List.replicate k X27).flatten = fill n (m + k) := by
  unfold splice fill
  have h1 : (List.replicate m X27).flatten.length = m * 3 := flat_len m X27
  have h2 : (List.replicate k X27).flatten.length = k * 3 := flat_len k X27
  have h3 : (List.replicate k Z27).flatten.length = k * 3 := flat_len k Z27
  have e : List.replicate (n - m) Z27 = List.replicate k Z27 ++ List.replicate (n - (m + k)) Z27 := by
    rw [List.replicate_append_replicate]; congr 1; omega
  have e2 : List.replicate (m + k) X27 = List.replicate m X27 ++ List.replicate k X27 := by rw [List.replicate_append_replicate]
  rw [e, e2, List.flatten_append, List.flatten_append, h2]
  rw [← h1, List.take_left, List.drop_append, List.drop_eq_nil_of_le (by omega), List.nil_append, h1]
  rw [show m * 3 + k * 3 - m * 3 = k * 3 from by omega, ← h3, List.drop_left, List.append_assoc]
theorem fill_get (n m k j : Nat) (v : Value) (h : k ≤ m) (hj : (List.replicate k X27).flatten[j]? = some v) : (fill n m)[j]? = some v := by
  unfold fill
  have e : List.replicate m X27 = List.replicate k X27 ++ List.replicate (m - k) X27 := by
    rw [List.replicate_append_replicate]; congr 1; omega
  have hl := (List.getElem?_eq_some_iff.1 hj).1
  rw [e, List.flatten_append, List.append_assoc, List.getElem?_append_left hl]
  exact hj
theorem one_X27 (k : Nat) : ∀ v ∈ (List.replicate k X27).flatten, v.oneCell' = true := by
  intro v hv
  obtain ⟨l, hl, hv⟩ := List.mem_flatten.1 hv
  rw [List.eq_of_mem_replicate hl] at hv
  simp [X27] at hv
  rcases hv with rfl | rfl | rfl <;> rfl

theorem reps_fill (R : S27 → List Value → Prop) (x : S27) (h : R x X27) (n : Nat) : Reps R 3 (List.replicate n x) (List.replicate n X27).flatten := by
  induction n with
  | zero => exact Reps.none _ _
  | succ n ih =>
    rw [List.replicate_succ', List.replicate_succ', List.flatten_append]
    have := Reps.snoc ih h rfl
    simpa using this
theorem make1 (w : World) : (Instr.makeSlice 23 (.int .i64 1) (.int .i64 1)).run Try.prog w = .ok (.slice (some ⟨w.heap.size, 0, none⟩) 1 1) (w.alloc (.cells #[.int .i64 0, .int .i64 0, .string ⟨#[]⟩] 27)) := by kernel_rfl
theorem make2 (w : World) : (Instr.makeSlice 23 (.int .i64 2) (.int .i64 2)).run Try.prog w = .ok (.slice (some ⟨w.heap.size, 0, none⟩) 2 2) (w.alloc (.cells #[.int .i64 0, .int .i64 0, .string ⟨#[]⟩, .int .i64 0, .int .i64 0, .string ⟨#[]⟩] 27)) := by kernel_rfl
theorem make3 (w : World) : (Instr.makeSlice 23 (.int .i64 3) (.int .i64 3)).run Try.prog w = .ok (.slice (some ⟨w.heap.size, 0, none⟩) 3 3) (w.alloc (.cells #[.int .i64 0, .int .i64 0, .string ⟨#[]⟩, .int .i64 0, .int .i64 0, .string ⟨#[]⟩, .int .i64 0, .int .i64 0, .string ⟨#[]⟩] 27)) := by kernel_rfl
theorem make4 (w : World) : (Instr.makeSlice 23 (.int .i64 4) (.int .i64 4)).run Try.prog w = .ok (.slice (some ⟨w.heap.size, 0, none⟩) 4 4) (w.alloc (.cells #[.int .i64 0, .int .i64 0, .string ⟨#[]⟩, .int .i64 0, .int .i64 0, .string ⟨#[]⟩, .int .i64 0, .int .i64 0, .string ⟨#[]⟩, .int .i64 0, .int .i64 0, .string ⟨#[]⟩] 27)) := by kernel_rfl
theorem make5 (w : World) : (Instr.makeSlice 23 (.int .i64 5) (.int .i64 5)).run Try.prog w = .ok (.slice (some ⟨w.heap.size, 0, none⟩) 5 5) (w.alloc (.cells #[.int .i64 0, .int .i64 0, .string ⟨#[]⟩, .int .i64 0, .int .i64 0, .string ⟨#[]⟩, .int .i64 0, .int .i64 0, .string ⟨#[]⟩, .int .i64 0, .int .i64 0, .string ⟨#[]⟩, .int .i64 0, .int .i64 0, .string ⟨#[]⟩] 27)) := by kernel_rfl
theorem make6 (w : World) : (Instr.makeSlice 23 (.int .i64 6) (.int .i64 6)).run Try.prog w = .ok (.slice (some ⟨w.heap.size, 0, none⟩) 6 6) (w.alloc (.cells #[.int .i64 0, .int .i64 0, .string ⟨#[]⟩, .int .i64 0, .int .i64 0, .string ⟨#[]⟩, .int .i64 0, .int .i64 0, .string ⟨#[]⟩, .int .i64 0, .int .i64 0, .string ⟨#[]⟩, .int .i64 0, .int .i64 0, .string ⟨#[]⟩, .int .i64 0, .int .i64 0, .string ⟨#[]⟩] 27)) := by kernel_rfl
theorem make7 (w : World) : (Instr.makeSlice 23 (.int .i64 7) (.int .i64 7)).run Try.prog w = .ok (.slice (some ⟨w.heap.size, 0, none⟩) 7 7) (w.alloc (.cells #[.int .i64 0, .int .i64 0, .string ⟨#[]⟩, .int .i64 0, .int .i64 0, .string ⟨#[]⟩, .int .i64 0, .int .i64 0, .string ⟨#[]⟩, .int .i64 0, .int .i64 0, .string ⟨#[]⟩, .int .i64 0, .int .i64 0, .string ⟨#[]⟩, .int .i64 0, .int .i64 0, .string ⟨#[]⟩, .int .i64 0, .int .i64 0, .string ⟨#[]⟩] 27)) := by kernel_rfl
theorem make8 (w : World) : (Instr.makeSlice 23 (.int .i64 8) (.int .i64 8)).run Try.prog w = .ok (.slice (some ⟨w.heap.size, 0, none⟩) 8 8) (w.alloc (.cells #[.int .i64 0, .int .i64 0, .string ⟨#[]⟩, .int .i64 0, .int .i64 0, .string ⟨#[]⟩, .int .i64 0, .int .i64 0, .string ⟨#[]⟩, .int .i64 0, .int .i64 0, .string ⟨#[]⟩, .int .i64 0, .int .i64 0, .string ⟨#[]⟩, .int .i64 0, .int .i64 0, .string ⟨#[]⟩, .int .i64 0, .int .i64 0, .string ⟨#[]⟩, .int .i64 0, .int .i64 0, .string ⟨#[]⟩] 27)) := by kernel_rfl
theorem info27s : (Try.prog.info? 27).map (·.size) = some 3 := by kernel_rfl
set_option maxHeartbeats 4000000 in
set_option maxRecDepth 100000 in
theorem repeat_calls (n b : Nat) (w : World) (hn1 : 1 ≤ n) (hn2 : n ≤ 8) (hb : w.heap[b]? = some (.cells #[.int .i64 1, .int .i64 0, .string ⟨#[]⟩] 27 (0, 0))) :
    Calls Try.prog 64 #[.slice (some ⟨b, 0, none⟩) 1 1, .int .i64 n] w fun e w' => ∃ v0_ : Value, e = .returned (v0_) ∧ Kd.R k27 27 w' w.heap.size (fun _ => True) v0_ (List.replicate n ⟨1, 0, ⟨#[]⟩⟩) ∧ Below w.heap.size w w' := by
  have hmk : ∀ w, (Instr.makeSlice 23 (.int .i64 n) (.int .i64 n)).run Try.prog w = .ok (.slice (some ⟨w.heap.size, 0, none⟩) n n) (w.alloc (.cells (fill n 0).toArray 27)) := by
    have hn : n = 1 ∨ n = 2 ∨ n = 3 ∨ n = 4 ∨ n = 5 ∨ n = 6 ∨ n = 7 ∨ n = 8 := by omega
    clear hn1 hn2
    rcases hn with rfl | rfl | rfl | rfl | rfl | rfl | rfl | rfl
    · exact make1
    · exact make2
    · exact make3
    · exact make4
    · exact make5
    · exact make6
    · exact make7
    · exact make8
  have HBb := Aside0.mk hb
  have hlt : b < w.heap.size := blk_lt hb
  clear hb
  have hd0 : decide ((n : Int) < 0) = false := decide_eq_false (by omega)
  have hd1 : decide (9223372036854775807 < (n : Int)) = false := decide_eq_false (by omega)
  go_enter Try.func64, Try.ntmps64
  go_wp2_with (first | (go_at_call 89; refine (mul_small _ _ (by omega) (by omega)).mono ?_; rintro e w' ⟨rfl, rfl⟩) | ((with_reducible refine gate_dst (N := 33) rfl ?_); refine wpList_copyK rfl 3 1 (.tmp 31) (.tmp 32) 23 23 rfl 27 Try.underlying23 info27s w.heap.size 0 n n ⟨b, 0, none⟩ 1 1 rfl rfl (fill n 0) 27 ?g1 (List.replicate 1 X27).flatten ?g2 rfl ?g3 ?g4 (one_X27 1) w.heap.size w ?g5 (Nat.le_refl _) ?_))
  case g1 => simpa using heap_alloc_new w _
  case g2 => exact (Nat.min_eq_left hn1).symm
  case g3 =>
    intro j v hj
    rw [show (⟨b, 0, none⟩ : Addr).add j = ⟨b, j, none⟩ by unfold Addr.add; split <;> simp_all]
    rw [World.cell?_alloc_past _ _ _ hlt, blk_cell HBb.out j]
    simpa [X27] using hj
  case g4 => rw [fill_len n 0 (by omega)]; show 0 + 3 ≤ n * 3; omega
  case g5 => exact (Below.refl _ _).alloc (Nat.le_refl _) _
  intro w1 hg1 hB1 hs1
  have HG : Aside0 (w1.heap[w.heap.size]? = some (.cells (fill n 1).toArray 27 (0, 0))) := ⟨by
    have := hg1.out
    have e : splice (fill n 0) 0 X27 = fill n 1 := by have := fill_step n 0 1 (by omega); simpa using this
    rwa [show splice (fill n 0) 0 X27 = fill n 1 from e] at this⟩
  clear hg1 hs1 hmk
  go_wp2_with fail
  go_loopw [8] (fun s8 wr => ∃ m : Nat, 1 ≤ m ∧ m ≤ n ∧ s8 = .int .i64 m ∧ Aside0 (wr.heap[w.heap.size]? = some (.cells (fill n m).toArray 27 (0, 0))) ∧ Aside0 (Below w.heap.size w wr)) (fun s8 _ => n - (intOf s8).toNat)
  case atStart => exact ⟨1, by omega, hn1, rfl, HG, hB1⟩
  case round =>
    clear HG hB1
    obtain ⟨m, hm1, hm2, rfl, HG, HB⟩ := hrel
    by_cases hlt2 : m < n
    · have hz : (m : Int) < (n : Int) := by omega
      have hm0 : (0 : Int) ≤ (m : Int) := by omega
      go_wp2_with fail
      have hnm : ¬ n = m := by omega
      have hq1 : Nat.min m (n - m) ≤ m := Nat.min_le_left _ _
      have hq2 : Nat.min m (n - m) ≤ n - m := Nat.min_le_right _ _
      have hq3 : 1 ≤ Nat.min m (n - m) := Nat.le_min.2 ⟨hm1, by omega⟩
      have HQ : Aside0 (Nat.min m (n - m) = Nat.min m (n - m)) := ⟨rfl⟩
      generalize hq : Nat.min m (n - m) = q at hq1 hq2 hq3 HQ
      have HQ2 := Aside0.mk hq.symm
      clear hq HQ
      have H1 : Aside0 (wr.drew.heap[w.heap.size]? = some (.cells (fill n m).toArray 27 (0, 0))) := ⟨HG.out⟩
      have H3 : Aside0 ((List.replicate q X27).flatten.length = q * 3) := ⟨flat_len q X27⟩
      have H4 : Aside0 (∀ j v, (List.replicate q X27).flatten[j]? = some v → wr.drew.cell? ((⟨w.heap.size, 0, none⟩ : Addr).add j) = some v) := ⟨by
        intro j v hj
        rw [show (⟨w.heap.size, 0, none⟩ : Addr).add j = ⟨w.heap.size, j, none⟩ by unfold Addr.add; split <;> simp_all]
        rw [blk_cell (w := wr.drew) HG.out j]
        have := fill_get n m q j v hq1 hj
        simpa using this⟩
      have H5 : Aside0 (m * 3 + (List.replicate q X27).flatten.length ≤ (fill n m).length) := ⟨by rw [fill_len n m hm2, flat_len]; show m * 3 + q * 3 ≤ n * 3; omega⟩
      have H6 : Aside0 (Below w.heap.size w wr.drew) := ⟨HB.out.drew⟩
      generalize hL : (List.replicate q X27).flatten = L at H3 H4 H5
      have HL := Aside0.mk hL.symm
      clear hL
      have H7 : Aside0 (∀ v ∈ L, v.oneCell' = true) := ⟨by rw [HL.out]; exact one_X27 q⟩
      go_region_held3 (fun _ => True) (trivial) ((refine step_copyK (by rfl) 3 q (.tmp 41) (.tmp 44) 23 23 (by rfl) 27 Try.underlying23 info27s w.heap.size (m * 3) (n - m) (n - m) ⟨w.heap.size, 0, none⟩ m n (by rfl) (by rfl) (fill n m) 27 H1.out L HQ2.out H3.out H4.out H5.out H7.out w.heap.size w H6.out (Nat.le_refl _) ?_; intro w2 hg2 hB2 hs2))
      have HG2 : Aside0 (w2.heap[w.heap.size]? = some (.cells (fill n (m + q)).toArray 27 (0, 0))) := ⟨by
        have := hg2.out
        rw [HL.out] at this
        rwa [fill_step n m q (by omega)] at this⟩
      have HS : Aside0 (IntKind.i64.wrap ((m : Int) + (q : Int)) = ((m + q : Nat) : Int)) := ⟨by rw [Go.IntWalk.i64_in _ (by omega)]; omega⟩
      clear hg2 hs2 HG HB H1 H3 H4 H5 H6 H7 HL
      go_wp2
      go_roundw
      case rel => exact ⟨m + q, by omega, by omega, by rw [HS.out], HG2, hB2⟩
      case measure => rw [HS.out]; simp [intOf]; omega
    · have hz : ¬ (m : Int) < (n : Int) := by omega
      have HMN : Aside0 (m = n) := ⟨by omega⟩
      go_wp2
      go_ret
      refine ⟨_, rfl, ⟨fun _ _ => trivial, fill n n, ⟨?_, .inr ⟨w.heap.size, n, (fill n n).toArray, by simp, Nat.le_refl _, ?_, by simp, by unfold maxLen; omega, ?_, ?_⟩⟩, ?_⟩, HB.out⟩
      · rw [fill_len n n (Nat.le_refl _), List.length_replicate]; rfl
      · have := HG.out; rwa [HMN.out] at this
      · rw [List.size_toArray, fill_len n n (Nat.le_refl _)]; rfl
      · rw [List.length_replicate]
        show (fill n n).take (n * 3) = fill n n
        rw [← fill_len n n (Nat.le_refl _), List.take_length]
      · have e : fill n n = (List.replicate n X27).flatten := by simp [fill]
        rw [e]
        exact reps_fill _ _ (k27_mkM _ _ _ (⟨1, 0, ⟨#[]⟩⟩ : S27)) n

set_option maxHeartbeats 2000000 in
theorem shapes4_calls (n : Nat) (a0_0 : Int) (a0_2 : ByteArray) (s1 : Value) (w : World) (hn1 : 1 ≤ n) (hn2 : n ≤ 8) :
    Calls Try.prog 63 #[.agg #[.int .i64 a0_0, .int .i64 n, .string a0_2], s1] w fun e w' => ∃ v0_ : Value, e = .returned (v0_) ∧ Kd.R k27 27 w' w.heap.size (fun _ => True) v0_ (List.replicate n ⟨1, 0, ⟨#[]⟩⟩) ∧ Below w.heap.size w w' := by
  go_enter Try.func63, Try.ntmps63
  go_wp2_with fail
  refine (repeat_calls n (w.heap.size + 1) _ hn1 hn2 ?_).mono ?_
  · have := heap_alloc_new (w.alloc (.cells #[.int .i64 a0_0, .int .i64 n, .string a0_2] 27)) (.cells #[.int .i64 1, .int .i64 0, .string ⟨#[]⟩] 27)
    simpa using this
  rintro e w1 ⟨v, rfl, hR, hB⟩
  have h1 : Below w.heap.size w w1 := (((Below.refl _ _).alloc (Nat.le_refl _) _).alloc (by simp) _).trans (hB.mono (by simp; omega))
  have HR := Aside0.mk (Kd.R_lower hR (show w.heap.size ≤ _ by simp; omega))
  have HB := Aside0.mk h1
  clear hR hB h1
  go_wp2
  go_ret
  exact ⟨_, rfl, HR.out, HB.out⟩

theorem reads_one (w3 : World) (x : S27) : ReadsRow (fun (x : S27) cs => cs = [.int .i64 x.f0, .int .i64 x.f1, .string x.f2]) k27.sz (w3.alloc (.cells #[.int .i64 x.f0, .int .i64 x.f1, .string x.f2] 27)) (some ⟨w3.heap.size, 0, none⟩) 1 [x] := by
  refine ⟨rfl, by omega, fun _ => ⟨_, rfl, fun j p hj => ?_⟩⟩
  have hj0 : j = 0 := by
    have := (List.getElem?_eq_some_iff.1 hj).1
    simpa using this
  subst hj0
  obtain rfl : x = p := by simpa using hj
  refine ⟨_, rfl, rfl, fun i u hi => ?_⟩
  have e : (⟨w3.heap.size, 0, none⟩ : Addr).add (0 * k27.sz + i) = ⟨w3.heap.size, i, none⟩ := by unfold Addr.add; split <;> simp_all
  rw [e]
  have := blk_cell (w := w3.alloc (.cells #[.int .i64 x.f0, .int .i64 x.f1, .string x.f2] 27)) (g := w3.heap.size) (by simpa using heap_alloc_new w3 _) i
  rw [this]
  simpa using hi
/-- the types of a record's fields -/
def scal (f : S76) : S27 := if f.f1.f0 = 2 then ⟨2, 0, ⟨#[]⟩⟩ else ⟨1, 0, ⟨#[]⟩⟩
set_option maxHeartbeats 4000000 in
set_option maxRecDepth 100000 in
theorem shapes6_calls (k : Nat) (a0_0 a0_1 : Int) (a0_2 : ByteArray) (A1 : Option Addr) (c1 : Nat) (l1 : List S63) (hk : k < l1.length) (w : World) (hr1 : Kd.C k63 w A1 l1.length l1) (hc1 : l1.length ≤ c1) (hik : recIdx l1 a0_2 = (k : Int)) (hlen : l1[k].f1.length ≤ 1000) :
    Calls Try.prog 66 #[.agg #[.int .i64 a0_0, .int .i64 a0_1, .string a0_2], .slice A1 l1.length c1] w fun e w' => ∃ v0_ : Value, e = .returned (v0_) ∧ Kd.R k27 27 w' w.heap.size (fun _ => True) v0_ (l1[k].f1.map scal) ∧ Below w.heap.size w w' := by
  have HR := Aside0.mk hr1
  have HC := Aside0.mk hc1
  have HI := Aside0.mk hik
  clear hr1 hc1 hik
  go_enter Try.func66, Try.ntmps66
  go_wp2_with fail
  refine (record_some A1 c1 l1 a0_2 k hk _ (Kd.C_below HR.out ((Below.refl _ _).alloc (Nat.le_refl _) _)) HC.out HI.out).mono ?_
  rintro e w1 ⟨A, c, rfl, hl, hk76, hb⟩
  generalize hfs : l1[k].f1 = fs at *
  have HF := Aside0.mk hfs
  obtain ⟨hc, hf⟩ := bcell hb
  have hz : w.heap.size < w1.heap.size := by have := hb.size; simp at this; omega
  have h1 : Below w.heap.size w w1 := ((Below.refl _ _).alloc (Nat.le_refl _) _).trans (hb.mono (by simp))
  have HB := Aside0.mk h1
  have HK := Aside0.mk hk76
  have HL := Aside0.mk hl
  clear hb h1 hl hk76 hfs
  have hlen' : fs.length ≤ 1000 := hlen
  go_wp2_with fail
  go_loopw [5, 9, 20] (fun s5 _ s20 wr => ∃ j : Nat, j ≤ fs.length ∧ s20 = .int .i64 j ∧ Aside0 (Kd.R k27 27 wr w1.heap.size (fun _ => True) s5 ((fs.map scal).take j)) ∧ Aside0 (Below w1.heap.size w1 wr)) (fun _ _ s20 _ => fs.length - (intOf s20).toNat)
  case atStart => exact ⟨0, Nat.zero_le _, rfl, ⟨Kd.R_nil _ _ _ _ _⟩, ⟨(Below.refl _ _).alloc (Nat.le_refl _) _⟩⟩
  case round =>
    obtain ⟨j, hj, rfl, HO, HW⟩ := hrel
    clear hc hf
    by_cases hlt : j < fs.length
    · have hjz : (j : Int) < (fs.length : Int) := by omega
      obtain ⟨ad, e0, hx0, hx1, hx2, hx3⟩ := at_T76 (Kd.C_below HK.out HW.out) (j : Int) (by omega) (by omega)
      cases e0
      simp only [Int.toNat_natCast] at hx0 hx1 hx2 hx3
      have hrd : rd_T76 fs (j : Int) = fs[j] := by simp [rd_T76, List.getD_eq_getElem?_getD, hlt]
      rw [hrd] at hx0 hx1 hx2 hx3
      clear hrd
      have hsc : types_scalar.f fs[j].f1.f0 fs[j].f1.f1 fs[j].f1.f2 = some ((scal fs[j]).f0, (scal fs[j]).f1, (scal fs[j]).f2) := by
        unfold types_scalar.f scal
        split <;> simp
      have HS := Aside0.mk hsc
      clear hsc
      go_wp2_with fail
      refine (types_scalar.calls _ _ _ _ _ _ _ HS.out).mono ?_
      rintro e w3 ⟨rfl, hb3⟩
      have hz3 : wr.heap.size < w3.heap.size := by have := hb3.size; simp at this; omega
      have hW3 : Below wr.heap.size wr w3 := ((Below.refl _ _).alloc (Nat.le_refl _) _).trans (hb3.mono (by simp))
      have H1 : Aside0 (Kd.R k27 27 (w3.alloc (.cells #[.int .i64 (scal fs[j]).f0, .int .i64 (scal fs[j]).f1, .string (scal fs[j]).f2] 27)) w1.heap.size (fun _ => True) u5 ((fs.map scal).take j)) := ⟨Kd.R_below HO.out (hW3.alloc (Nat.le_of_lt hz3) _)⟩
      have H2 : Aside0 (ReadsRow (fun (x : S27) cs => cs = [.int .i64 x.f0, .int .i64 x.f1, .string x.f2]) k27.sz (w3.alloc (.cells #[.int .i64 (scal fs[j]).f0, .int .i64 (scal fs[j]).f1, .string (scal fs[j]).f2] 27)) (some ⟨w3.heap.size, 0, none⟩) 1 [scal fs[j]]) := ⟨reads_one w3 (scal fs[j])⟩
      have H3 : Aside0 (Below w1.heap.size w1 (w3.alloc (.cells #[.int .i64 (scal fs[j]).f0, .int .i64 (scal fs[j]).f1, .string (scal fs[j]).f2] 27))) := ⟨(HW.out.trans (hW3.mono HW.out.size)).alloc (Nat.le_trans HW.out.size (Nat.le_of_lt hz3)) _⟩
      generalize hsx : scal fs[j] = sx at *
      have HX := Aside0.mk hsx
      have hl4 : (((fs.map scal).take j).length + 1) * 32 ≤ 140737488355328 := by rw [List.length_take, List.length_map]; omega
      have H4 := Aside0.mk hl4
      have H5 : Aside0 (w1.heap.size ≤ (w3.alloc (.cells #[.int .i64 sx.f0, .int .i64 sx.f1, .string sx.f2] 27)).heap.size) := ⟨H3.out.size⟩
      clear hb3 hW3 hsx hl4 HO HS
      go_wp2_with ((with_reducible refine gate_dst (N := 29) rfl ?_); refine Kd.R_append_rows (w0 := w1) (Rr := fun (x : S27) cs => cs = [.int .i64 x.f0, .int .i64 x.f1, .string x.f2]) k27 w1.heap.size rfl (.tmp 24) (.tmp 28) 23 27 (.agg #[(.int .i64 0), (.int .i64 0), (.string ⟨#[]⟩)]) 32 rfl Try.underlying23 info27 rfl (by decide) (by decide) u5 ((fs.map scal).take j) [sx] (some ⟨w3.heap.size, 0, none⟩) 1 1 (fun _ => True) (fun _ => False) rfl rfl H1.out H2.out (by intro x cs h; subst h; exact k27_mkM _ _ _ x) (fun _ h => h.elim) (fun _ _ => trivial) H3.out H5.out H4.out ?_)
      intro v1 w5 hR5 hB5 _ _
      have HO5 : Aside0 (Kd.R k27 27 w5 w1.heap.size (fun _ => True) v1 ((fs.map scal).take (j + 1))) := ⟨by
        rw [List.take_succ_eq_append_getElem (by simpa using hlt), List.getElem_map, HX.out]
        exact hR5⟩
      have HB5 := Aside0.mk hB5
      clear hR5 hB5 H1 H2 H3 H4 H5 HX
      go_wp2
      go_roundw
      case rel => exact ⟨j + 1, by omega, by go_num, HO5, HB5⟩
      case measure => simp [intOf]; omega
    · have hjz : ¬ (j : Int) < (fs.length : Int) := by omega
      go_wp2
      go_ret
      refine ⟨_, rfl, ?_, HB.out.trans (HW.out.mono HB.out.size)⟩
      have := Kd.R_lower HO.out HB.out.size
      rw [List.take_of_length_le (by simp; omega)] at this
      rw [HF.out]
      exact this
end Go.Proofs.Ytigkoknabliboaa.PAll
