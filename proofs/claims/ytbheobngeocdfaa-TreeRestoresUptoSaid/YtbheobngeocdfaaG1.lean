/- visit: the recursive iterator over a tree: its contract by induction on the tree. visit: the recursive iterator over a tree: its contract by induction on the tree; nodes. nodes: the iterator value; Count. visit and nodes once more, with a property of the nodes that the Kids inherit (H2, H3 without it). Count. Same, and the library's EqualFunc over it. Find, its closure, and the library's IndexFunc over it. Find: the walk. -/
import Derived.RangeFuncNested
import Derived.RangeFuncBound
import Derived.RangeFuncCalls
import Derived.RangeFuncLeaves
import Derived.Shelf.Abstract
import Derived.Shelf.RegionOpen
import Derived.WalkKit
import Derived.OwnWalkIn
import Derived.TacticsInMore
import Derived.LoopNIn
import Derived.LoopIn
import Derived.Test.YtbheobngeocdfaaPAllx0
import Derived.RangeFuncFrom
namespace Go.Proofs.Ytbheobngeocdfaa.PAll
open Go.RowKit Go.Shelf Go.Proofs.YtbheobngeocdfaaW.PrintWords
set_option linter.unusedVariables false
set_option linter.unusedSimpArgs false
attribute [local go_sem] Oper.semAt_some

/-! ### trees -/
mutual
/-- the nodes of a tree in the order of their numbers -/
def pre24 : S24 → List S24
  | ⟨a, b, c, d, ks⟩ => ⟨a, b, c, d, ks⟩ :: preL24 ks
def preL24 : List S24 → List S24
  | [] => []
  | x :: xs => pre24 x ++ preL24 xs
end
theorem pre24_eq (x : S24) : pre24 x = x :: preL24 x.f4 := by cases x; simp [pre24]
theorem preL24_append (xs ys : List S24) : preL24 (xs ++ ys) = preL24 xs ++ preL24 ys := by
  induction xs with
  | nil => simp [preL24]
  | cons x xs ih => simp [preL24, ih]
theorem preL24_take (xs : List S24) (j : Nat) (h : j < xs.length) : preL24 (xs.take (j + 1)) = preL24 (xs.take j) ++ pre24 xs[j] := by
  rw [List.take_succ_eq_append_getElem h, preL24_append]; simp [preL24]
theorem mem_sizeOf24 {x k : S24} (h : k ∈ x.f4) : SizeOf.sizeOf k < SizeOf.sizeOf x := by
  have := List.sizeOf_lt_of_mem h
  cases x; simp at this ⊢; omega
theorem ind24 {p : S24 → Prop} (h : ∀ x, (∀ k ∈ x.f4, p k) → p x) (x : S24) : p x := by
  suffices ∀ n x, SizeOf.sizeOf x < n → p x from this _ x (Nat.lt_succ_self _)
  intro n
  induction n with
  | zero => intro x hx; omega
  | succ n ih => intro x hx; exact h x fun k hk => ih k (by have := mem_sizeOf24 hk; omega)

/-! ### what a round hands over -/
/-- a node as a value: its row of Kids lies in w0. -/
abbrev Nod (w0 : World) := { x : S24 × Option Addr × Nat // k24.C w0 x.2.1 x.1.f4.length x.1.f4 ∧ x.1.f4.length ≤ x.2.2 }
def val24 (x : S24) (A : Option Addr) (c : Nat) : Value := .agg #[.int .i64 x.f0, .string x.f1, .int .i64 x.f2, .int .i64 x.f3, .slice A x.f4.length c]
def encN {w0 : World} (x : Nod w0) : Array Value := #[val24 x.1.1 x.1.2.1 x.1.2.2]

/-- What a round keeps: all below n₀, and the cells from block B on. -/
structure KpB (n₀ B : Nat) (W W' : World) : Prop where
  below : Below n₀ W W'
  keep : ∀ b cs t fr, B ≤ b → W.heap[b]? = some (.cells cs t fr) → W'.heap[b]? = some (.cells cs t fr)
theorem KpB.refl (n₀ B : Nat) (W : World) : KpB n₀ B W W := ⟨Below.refl _ _, fun _ _ _ _ _ h => h⟩
theorem KpB.trans {n₀ B : Nat} {a b c : World} (h : KpB n₀ B a b) (k : KpB n₀ B b c) : KpB n₀ B a c :=
  ⟨h.below.trans k.below, fun _ _ _ _ hb hc => k.keep _ _ _ _ hb (h.keep _ _ _ _ hb hc)⟩
theorem KpB.of_below {n₀ B : Nat} {a b : World} (h : Below a.heap.size a b) (hn : n₀ ≤ a.heap.size) : KpB n₀ B a b :=
  ⟨h.mono hn, fun k cs t fr _ hc => (h.block k (Array.getElem?_eq_some_iff.1 hc).1).trans hc⟩
theorem KpB.turn {n₀ B : Nat} {w : World} (hn : n₀ ≤ w.heap.size) (W : World) (l : Nat) (o o' : Obj) (hl : w.heap.size ≤ l) (h : W.heap[l]? = some o) (hc : o.isCells = false) (hw : o.isWalk = false) : KpB n₀ B W (W.putObj l o') :=
  ⟨belowK_b hn W l o o' hl h hc hw, fun b cs t fr _ hb => by
    by_cases hbl : b = l
    · subst hbl; rw [hb] at h; cases h; cases hc
    · rw [World.putObj_heap_other hbl]; exact hb⟩
theorem KpB.cell {n₀ B : Nat} {W W' : World} (h : KpB n₀ B W W') {b : Nat} {cs t fr} (hb : B ≤ b) (hc : W.heap[b]? = some (.cells cs t fr)) : W'.heap[b]? = some (.cells cs t fr) := h.keep _ _ _ _ hb hc

theorem room_of_none {F : Fence} (hd : F.depth = none) (k : Nat) : F.room k := fun d h => by rw [hd] at h; cases h
theorem RoundIn.anyDepth {F : Fence} (hd : F.depth = none) {m m' : Nat} {P : Program} {l : Nat} {f : FuncId} {tmps : Array Value} {assign body : Code} {w : World} {R : Ending → World → Prop}
    (h : RoundIn F m P l f tmps assign body w R) : RoundIn F m' P l f tmps assign body w R := ⟨h.1, fun c cs _ => h.2 c cs (room_of_none hd _)⟩
theorem YieldAt.anyDepth {F : Fence} (hd : F.depth = none) {m : Nat} (m' : Nat) {P : Program} {l : Nat} {args : Array Value} {W : World} {R : Ending → World → Prop} (h : YieldAt F m P l args W R) : YieldAt F m' P l args W R := by
  obtain ⟨fn, tmps, assign, body, hy, hR⟩ := h
  exact ⟨fn, tmps, assign, body, hy, RoundIn.anyDepth hd hR⟩

/-- the cells of an element of a row of nodes -/
theorem elem24 {w0 W : World} {A : Option Addr} {xs : List S24} (h : k24.C w0 A xs.length xs) (hb : Below w0.heap.size w0 W) (j : Nat) (hj : j < xs.length) :
    ∃ ad A4 c4, A = some ad ∧ W.cell? (ad.add (j * 5)) = some (.int .i64 xs[j].f0) ∧ W.cell? ⟨(ad.add (j * 5)).block, (ad.add (j * 5)).off + 1, none⟩ = some (.string xs[j].f1) ∧ W.cell? ⟨(ad.add (j * 5)).block, (ad.add (j * 5)).off + 2, none⟩ = some (.int .i64 xs[j].f2) ∧ W.cell? ⟨(ad.add (j * 5)).block, (ad.add (j * 5)).off + 3, none⟩ = some (.int .i64 xs[j].f3) ∧ W.cell? ⟨(ad.add (j * 5)).block, (ad.add (j * 5)).off + 4, none⟩ = some (.slice A4 xs[j].f4.length c4) ∧ xs[j].f4.length ≤ c4 ∧ k24.C w0 A4 xs[j].f4.length xs[j].f4 := by
  obtain ⟨ad, A4, c4, e, h0, h1, h2, h3, h4, hl, hC⟩ := at_T24 h (j : Int) (by omega) (by omega)
  have hx : rd_T24 xs (j : Int) = xs[j] := by simp [rd_T24, List.getElem?_eq_getElem hj]
  rw [hx] at h0 h1 h2 h3 h4 hl hC
  rw [Int.toNat_natCast] at h0 h1 h2 h3 h4
  exact ⟨ad, A4, c4, e, (hb.cell (World.block_lt_of_cell? w0 _ h0)).trans h0, (hb.cell (World.block_lt_of_cell? w0 _ h1)).trans h1, (hb.cell (World.block_lt_of_cell? w0 _ h2)).trans h2, (hb.cell (World.block_lt_of_cell? w0 _ h3)).trans h3, (hb.cell (World.block_lt_of_cell? w0 _ h4)).trans h4, hl, hC⟩

end Go.Proofs.Ytbheobngeocdfaa.PAll
namespace Go.Proofs.Ytbheobngeocdfaa.PAll
open Go.RowKit Go.Shelf Go.Proofs.YtbheobngeocdfaaW.PrintWords
set_option linter.unusedVariables false
set_option linter.unusedSimpArgs false
attribute [local go_sem] Oper.semAt_some

theorem len_pre24_pos (x : S24) : 1 ≤ (pre24 x).length := by rw [pre24_eq]; simp
theorem len_preL24 (xs : List S24) : xs.length ≤ (preL24 xs).length := by
  induction xs with
  | nil => simp [preL24]
  | cons x xs ih => simp only [preL24, List.length_append, List.length_cons]; have := len_pre24_pos x; omega
theorem wrap64_small24 {j : Nat} (h : j < 4611686018427387906) : wrap64 ((j : Int) + 1) = (j : Int) + 1 := by
  unfold wrap64; omega

set_option maxRecDepth 100000 in
set_option maxHeartbeats 4000000 in
theorem visit_in (F : Fence) (hd : F.depth = none) (h70 : F.fn 70) (hro : F.round = none) (w0 : World) (B : Nat) (hB : w0.heap.size ≤ B) (l N : Nat) (hNb : N < 4611686018427387904) (J Jx : List (Nod w0) → World → Prop) {B1 : Nat} (hJ : AbidesFrom B1 J)
    (hY : ∀ m pre x W, J pre W → pre.length < N → YieldAt F m Try.prog l (encN x) W fun e W' =>
      (e = .returned (.bool true) ∧ J (pre ++ [x]) W' ∧ KpB w0.heap.size B W W') ∨ (e = .returned (.bool false) ∧ Jx (pre ++ [x]) W')) (T : S24) :
    ∀ (n : Nat) (A : Option Addr) (c : Nat) (pre : List (Nod w0)) (W : World), k24.C w0 A T.f4.length T.f4 → T.f4.length ≤ c → Below w0.heap.size w0 W → B ≤ W.heap.size → J pre W → pre.length + (pre24 T).length ≤ N →
      CallsIn F n Try.prog 70 #[val24 T A c, .func (.yield l) #[] #[]] W fun e W' =>
        (e = .returned (.bool true) ∧ (∃ ys : List (Nod w0), ys.map (·.1.1) = pre24 T ∧ J (pre ++ ys) W') ∧ KpB w0.heap.size B W W') ∨ (e = .returned (.bool false) ∧ ∃ q : List (Nod w0), q.map (·.1.1) <+: pre24 T ∧ Jx (pre ++ q) W') := by
  have HNb := Aside0.mk hNb
  clear hNb
  induction T using ind24 with
  | h T ih =>
  intro n A c pre W hC hc hW hBW hj hN
  have hNb := HNb.out
  have hwj0 : ∀ j, j < T.f4.length → wrap64 ((j : Int) + 1) = ((j + 1 : Nat) : Int) := fun j hj => wrap64_small24 (by have := len_preL24 T.f4; have : (pre24 T).length = 1 + (preL24 T.f4).length := (by rw [pre24_eq]; simp; omega); omega)
  clear hNb
  replace hwj0 := Aside0.mk hwj0
  have hdd : ∀ k : Nat, (F.depth.isSome = true → 1 ≤ k) := fun k h => by rw [hd] at h; cases h
  have hpl : (pre24 T).length = 1 + (preL24 T.f4).length := by rw [pre24_eq]; simp; omega
  refine callsIn_of_wp Try.func70 rfl h70 ?_ hro
  simp only [val24, Try.ntmps70, List.size_toArray, List.length_cons, List.length_nil, Nat.reduceAdd, Nat.reduceSub, Array.replicate_succ, Array.replicate_zero, List.push_toArray, List.append_toArray, List.nil_append, List.cons_append]
  have hu24 := Try.underlying24
  have hl22 := @Try.underlying22
  have hj1 : J pre (W.alloc (.cells #[.int .i64 T.f0, .string T.f1, .int .i64 T.f2, .int .i64 T.f3, .slice A T.f4.length c] 24)) := hJ pre W _ none hj (World.grownBy_alloc W _ none) (fun r e => by cases e)
  obtain ⟨fn, tmps, assign, body, hy, hR⟩ := hY (n - 1) pre ⟨(T, A, c), hC, hc⟩ _ hj1 (by omega)
  have hk1 : KpB w0.heap.size B W (W.alloc (.cells #[.int .i64 T.f0, .string T.f1, .int .i64 T.f2, .int .i64 T.f3, .slice A T.f4.length c] 24)) := KpB.of_below ((Below.refl _ W).alloc (Nat.le_refl _) _) (Nat.le_trans hB hBW)
  have hb1 : (W.alloc (.cells #[.int .i64 T.f0, .string T.f1, .int .i64 T.f2, .int .i64 T.f3, .slice A T.f4.length c] 24)).heap[W.heap.size]? = some (.cells #[.int .i64 T.f0, .string T.f1, .int .i64 T.f2, .int .i64 T.f3, .slice A T.f4.length c] 24) := World.alloc_heap_new _ _
  simp only [encN, val24] at hy
  clear hY
  gi_wp2_with ((try refine ⟨hdd _, ?_⟩); refine hR.mono ?_; clear hR; rintro e W2 (⟨rfl, hj2, hk2⟩ | ⟨rfl, hx2⟩); first | have hc2 : W2.cell? ⟨W.heap.size, 4, none⟩ = some (.slice A T.f4.length c) := (blk_cell (hk2.keep _ _ _ _ hBW hb1) 4).trans rfl | skip)
  · -- the Kids
    have hb2 : Below w0.heap.size w0 W2 := (hW.trans hk1.below).trans hk2.below
    have hB2 : B ≤ W2.heap.size := by have := hk1.below.size; have := hk2.below.size; omega
    clear hc2 hy
    gi_loopw [14] (fun p wr => ∃ (j : Nat) (ys : List (Nod w0)), p = .int .i64 (j : Int) ∧ j ≤ T.f4.length ∧ ys.map (·.1.1) = T :: preL24 (T.f4.take j) ∧ J (pre ++ ys) wr ∧ KpB w0.heap.size B W wr ∧ Below w0.heap.size w0 wr ∧ B ≤ wr.heap.size)
      (fun p wr => T.f4.length - (intOf p).toNat)
    case atStart => exact ⟨0, [⟨(T, A, c), hC, hc⟩], rfl, Nat.zero_le _, by simp [preL24], hj2, hk1.trans hk2, hb2, hB2⟩
    case round =>
      obtain ⟨j, ys, rfl, hjl, hys, hjj, hkr, hbr, hBr⟩ := hrel
      by_cases hlt : j < T.f4.length
      · have hlt' : (j : Int) < (T.f4.length : Int) := by omega
        have hge : (0 : Int) ≤ (j : Int) := by omega
        obtain ⟨ad, A4, c4, rfl, e0, e1, e2, e3, e4, el, eC⟩ := elem24 hC hbr j hlt
        have hys' : (pre ++ ys).length + (pre24 T.f4[j]).length ≤ N := by
          have h1 : ys.length = 1 + (preL24 (T.f4.take j)).length := by
            have := congrArg List.length hys; simp at this; omega
          have h2 := congrArg List.length (preL24_take T.f4 j hlt)
          have h3 : preL24 T.f4 = preL24 (T.f4.take (j + 1)) ++ preL24 (T.f4.drop (j + 1)) := by rw [← preL24_append, List.take_append_drop]
          have h4 := congrArg List.length h3
          simp only [List.length_append] at h2 h4 ⊢
          omega
        have hk3 : KpB w0.heap.size B wr (wr.alloc (.cells #[.int .i64 T.f4[j].f0, .string T.f4[j].f1, .int .i64 T.f4[j].f2, .int .i64 T.f4[j].f3, .slice A4 T.f4[j].f4.length c4] 24)) := KpB.of_below ((Below.refl _ wr).alloc (Nat.le_refl _) _) (Nat.le_trans hB hBr)
        have hih := ih T.f4[j] (List.getElem_mem hlt) (n - 1) A4 c4 (pre ++ ys) (wr.alloc (.cells #[.int .i64 T.f4[j].f0, .string T.f4[j].f1, .int .i64 T.f4[j].f2, .int .i64 T.f4[j].f3, .slice A4 T.f4[j].f4.length c4] 24)) eC el (hbr.trans hk3.below) (by simp; omega) (hJ _ _ _ none hjj (World.grownBy_alloc wr _ none) (fun r e => by cases e)) hys'
        simp only [val24] at hih
        clear ih
        gi_wp2_with ((try refine ⟨hdd _, ?_⟩); gi_at_call 70; refine hih.mono ?_; clear hih; rintro e W3 (⟨rfl, ⟨zs, hzs, hj3⟩, hk4⟩ | ⟨rfl, q, hq, hx3⟩))
        · -- it goes on
          go_roundw
          case rel =>
            refine ⟨j + 1, ys ++ zs, ?_, hlt, ?_, by rw [← List.append_assoc]; exact hj3, (hkr.trans hk3).trans hk4, (hbr.trans hk3.below).trans hk4.below, ?_⟩
            · rw [hwj0.out j hlt]
            · rw [List.map_append, hys, hzs, preL24_take _ _ hlt]; simp
            · have := hk3.below.size; have := hk4.below.size; omega
          case measure =>
            rw [hwj0.out j hlt]; show T.f4.length - (((j + 1 : Nat) : Int)).toNat < T.f4.length - (j : Int).toNat; omega
        · go_ret
          refine .inr ⟨rfl, ys ++ q, ?_, by rw [← List.append_assoc]; exact hx3⟩
          rw [pre24_eq, List.map_append, hys]
          obtain ⟨r, hr⟩ := hq
          refine ⟨r ++ preL24 (T.f4.drop (j + 1)), ?_⟩
          rw [List.cons_append, List.cons_append, List.append_assoc]
          have h3 : preL24 T.f4 = preL24 (T.f4.take (j + 1)) ++ preL24 (T.f4.drop (j + 1)) := by rw [← preL24_append, List.take_append_drop]
          rw [h3, preL24_take _ _ hlt, ← hr]
          simp
      · have hje : j = T.f4.length := by omega
        subst hje
        have hlt' : ¬ ((T.f4.length : Int) < (T.f4.length : Int)) := by omega
        gi_wp2
        go_ret
        refine .inl ⟨rfl, ⟨ys, by rw [hys, List.take_length, pre24_eq], hjj⟩, hkr⟩
  · go_ret
    exact .inr ⟨rfl, [⟨(T, A, c), hC, hc⟩], ⟨preL24 T.f4, by rw [pre24_eq]; rfl⟩, hx2⟩
end Go.Proofs.Ytbheobngeocdfaa.PAll
namespace Go.Proofs.Ytbheobngeocdfaa.PAll
open Go.RowKit Go.Shelf Go.Proofs.YtbheobngeocdfaaW.PrintWords
set_option linter.unusedVariables false
set_option linter.unusedSimpArgs false
attribute [local go_sem] Oper.semAt_some

set_option maxRecDepth 100000 in
set_option maxHeartbeats 2000000 in
/-- nodes$1 -/
theorem nodes1_in (F : Fence) (hd : F.depth = none) (n : Nat) (h69 : F.fn 69) (h70 : F.fn 70) (hro : F.round = none) (w0 : World) (B : Nat) (hB : w0.heap.size ≤ B) (l N : Nat) (hNb : N < 4611686018427387904) (J Jx : List (Nod w0) → World → Prop) {B1 : Nat} (hJ : AbidesFrom B1 J) (T : S24) (A : Option Addr) (c : Nat) (bn : Nat)
    (hN : (pre24 T).length ≤ N) (hC : k24.C w0 A T.f4.length T.f4) (hc : T.f4.length ≤ c)
    (hY : ∀ pre x W, J pre W → pre.length < N → YieldAt F (n - 1) Try.prog l (encN x) W fun e W' =>
      (e = .returned (.bool true) ∧ J (pre ++ [x]) W' ∧ KpB w0.heap.size B W W') ∨ (e = .returned (.bool false) ∧ Jx (pre ++ [x]) W'))
    (W : World) (hbn : W.heap[bn]? = some (.cells #[.int .i64 T.f0, .string T.f1, .int .i64 T.f2, .int .i64 T.f3, .slice A T.f4.length c] 24)) (hW : Below w0.heap.size w0 W) (hBW : B ≤ W.heap.size) (h0 : J [] W) :
    CallsIn F n Try.prog 69 #[.func (.yield l) #[] #[], .pointer (some ⟨bn, 0, none⟩)] W fun e W' => (∃ v, e = .returned v) ∧
      ((∃ ys : List (Nod w0), ys.map (·.1.1) = pre24 T ∧ J ys W') ∨ (∃ pre : List (Nod w0), pre.map (·.1.1) <+: pre24 T ∧ Jx pre W')) := by
  have hdd : ∀ k : Nat, (F.depth.isSome = true → 1 ≤ k) := fun k h => by rw [hd] at h; cases h
  have hp := visit_in F hd h70 hro w0 B hB l N hNb J Jx hJ (fun m pre x W hj hl => YieldAt.anyDepth hd m (hY pre x W hj hl)) T (n - 1) A c [] W hC hc hW hBW h0 (by simpa using hN)
  simp only [val24, List.nil_append] at hp
  have hu24 := Try.underlying24
  have hc0 : W.cell? ⟨bn, 0, none⟩ = some (.int .i64 T.f0) := (blk_cell hbn 0).trans rfl
  have hc1 : W.cell? ⟨bn, 1, none⟩ = some (.string T.f1) := (blk_cell hbn 1).trans rfl
  have hc2 : W.cell? ⟨bn, 2, none⟩ = some (.int .i64 T.f2) := (blk_cell hbn 2).trans rfl
  have hc3 : W.cell? ⟨bn, 3, none⟩ = some (.int .i64 T.f3) := (blk_cell hbn 3).trans rfl
  have hc4 : W.cell? ⟨bn, 4, none⟩ = some (.slice A T.f4.length c) := (blk_cell hbn 4).trans rfl
  clear hNb hY
  refine callsIn_of_wp Try.func69 rfl h69 ?_ hro
  simp only [Try.ntmps69, List.size_toArray, List.length_cons, List.length_nil, Nat.reduceAdd, Nat.reduceSub, Array.replicate_succ, Array.replicate_zero, List.push_toArray, List.append_toArray, List.nil_append, List.cons_append]
  gi_wp2_with ((try refine ⟨hdd _, ?_⟩); gi_at_call 70; refine hp.mono ?_; clear hp; rintro e W1 (⟨rfl, hy1, _⟩ | ⟨rfl, hx1⟩))
  · go_end0
    exact ⟨⟨_, rfl⟩, .inl hy1⟩
  · go_end0
    exact ⟨⟨_, rfl⟩, .inr hx1⟩

set_option maxHeartbeats 2000000 in
/-- nodes -/
theorem nodes_in (F : Fence) (n : Nat) (h50 : F.fn 50) (hro : F.round = none) (T : S24) (A : Option Addr) (c : Nat) (w : World) :
    CallsIn F n Try.prog 50 #[val24 T A c] w fun e w' => e = .returned (.func (.func 69) #[] #[.pointer (some ⟨w.heap.size, 0, none⟩)]) ∧ w' = w.alloc (.cells #[.int .i64 T.f0, .string T.f1, .int .i64 T.f2, .int .i64 T.f3, .slice A T.f4.length c] 24) := by
  refine callsIn_of_wp Try.func50 rfl h50 ?_ hro
  simp only [val24, Try.ntmps50, List.size_toArray, List.length_cons, List.length_nil, Nat.reduceAdd, Nat.reduceSub, Array.replicate_succ, Array.replicate_zero, List.push_toArray, List.append_toArray, List.nil_append, List.cons_append]
  gi_wp2
  go_ret
  exact ⟨rfl, rfl⟩

theorem nodes_stops (F : Fence) (hd : F.depth = none) (n : Nat) (h69 : F.fn 69) (h70 : F.fn 70) (hro : F.round = none) (w0 w : World) (hb : Below w0.heap.size w0 w) (bn : Nat) (T : S24) (A : Option Addr) (c : Nat) (hC : k24.C w0 A T.f4.length T.f4) (hc : T.f4.length ≤ c)
    (hNb : (pre24 T).length < 4611686018427387904)
    (hbn : w.heap[bn]? = some (.cells #[.int .i64 T.f0, .string T.f1, .int .i64 T.f2, .int .i64 T.f3, .slice A T.f4.length c] 24)) :
    SeqStopsK F n Try.prog 69 #[.pointer (some ⟨bn, 0, none⟩)] (encN (w0 := w0)) (KpB w0.heap.size w.heap.size) (fun ys => ys.map (·.1.1) = pre24 T) (fun pre => pre.map (·.1.1) <+: pre24 T) (pre24 T).length w := fun l J Jx W hW hJ _ hY h0 =>
  nodes1_in F hd n h69 h70 hro w0 w.heap.size hb.size l (pre24 T).length hNb J Jx hJ T A c bn (Nat.le_refl _) hC hc hY W ((hW.block bn (Array.getElem?_eq_some_iff.1 hbn).1).trans hbn) (hb.trans (hW.mono hb.size)) hW.size h0

end Go.Proofs.Ytbheobngeocdfaa.PAll
namespace Go.Proofs.Ytbheobngeocdfaa.PAll
open Go.RowKit Go.Shelf Go.Proofs.YtbheobngeocdfaaW.PrintWords
set_option linter.unusedVariables false
set_option linter.unusedSimpArgs false
attribute [local go_sem] Oper.semAt_some

/-- a node as a value: its row of Kids lies in w0; it has the property P. -/
abbrev NodP (P : S24 → Prop) (w0 : World) := { x : S24 × Option Addr × Nat // P x.1 ∧ k24.C w0 x.2.1 x.1.f4.length x.1.f4 ∧ x.1.f4.length ≤ x.2.2 }
def encP {P : S24 → Prop} {w0 : World} (x : NodP P w0) : Array Value := #[val24 x.1.1 x.1.2.1 x.1.2.2]

set_option maxRecDepth 100000 in
set_option maxHeartbeats 4000000 in
theorem visitP_in (P : S24 → Prop) (hP : ∀ x, P x → ∀ k ∈ x.f4, P k) (F : Fence) (hd : F.depth = none) (h70 : F.fn 70) (hro : F.round = none) (w0 : World) (B : Nat) (hB : w0.heap.size ≤ B) (l N : Nat) (hNb : N < 4611686018427387904) (J Jx : List (NodP P w0) → World → Prop) {B1 : Nat} (hJ : AbidesFrom B1 J)
    (hY : ∀ m pre x W, J pre W → pre.length < N → YieldAt F m Try.prog l (encP x) W fun e W' =>
      (e = .returned (.bool true) ∧ J (pre ++ [x]) W' ∧ KpB w0.heap.size B W W') ∨ (e = .returned (.bool false) ∧ Jx (pre ++ [x]) W')) (T : S24) :
    ∀ (n : Nat) (A : Option Addr) (c : Nat) (pre : List (NodP P w0)) (W : World), P T → k24.C w0 A T.f4.length T.f4 → T.f4.length ≤ c → Below w0.heap.size w0 W → B ≤ W.heap.size → J pre W → pre.length + (pre24 T).length ≤ N →
      CallsIn F n Try.prog 70 #[val24 T A c, .func (.yield l) #[] #[]] W fun e W' =>
        (e = .returned (.bool true) ∧ (∃ ys : List (NodP P w0), ys.map (·.1.1) = pre24 T ∧ J (pre ++ ys) W') ∧ KpB w0.heap.size B W W') ∨ (e = .returned (.bool false) ∧ ∃ q : List (NodP P w0), q.map (·.1.1) <+: pre24 T ∧ Jx (pre ++ q) W') := by
  have HNb := Aside0.mk hNb
  clear hNb
  induction T using ind24 with
  | h T ih =>
  intro n A c pre W hPT hC hc hW hBW hj hN
  have hNb := HNb.out
  have hwj0 : ∀ j, j < T.f4.length → wrap64 ((j : Int) + 1) = ((j + 1 : Nat) : Int) := fun j hj => wrap64_small24 (by have := len_preL24 T.f4; have : (pre24 T).length = 1 + (preL24 T.f4).length := (by rw [pre24_eq]; simp; omega); omega)
  clear hNb
  replace hwj0 := Aside0.mk hwj0
  have hdd : ∀ k : Nat, (F.depth.isSome = true → 1 ≤ k) := fun k h => by rw [hd] at h; cases h
  have hpl : (pre24 T).length = 1 + (preL24 T.f4).length := by rw [pre24_eq]; simp; omega
  refine callsIn_of_wp Try.func70 rfl h70 ?_ hro
  simp only [val24, Try.ntmps70, List.size_toArray, List.length_cons, List.length_nil, Nat.reduceAdd, Nat.reduceSub, Array.replicate_succ, Array.replicate_zero, List.push_toArray, List.append_toArray, List.nil_append, List.cons_append]
  have hu24 := Try.underlying24
  have hl22 := @Try.underlying22
  have hj1 : J pre (W.alloc (.cells #[.int .i64 T.f0, .string T.f1, .int .i64 T.f2, .int .i64 T.f3, .slice A T.f4.length c] 24)) := hJ pre W _ none hj (World.grownBy_alloc W _ none) (fun r e => by cases e)
  obtain ⟨fn, tmps, assign, body, hy, hR⟩ := hY (n - 1) pre ⟨(T, A, c), hPT, hC, hc⟩ _ hj1 (by omega)
  have hk1 : KpB w0.heap.size B W (W.alloc (.cells #[.int .i64 T.f0, .string T.f1, .int .i64 T.f2, .int .i64 T.f3, .slice A T.f4.length c] 24)) := KpB.of_below ((Below.refl _ W).alloc (Nat.le_refl _) _) (Nat.le_trans hB hBW)
  have hb1 : (W.alloc (.cells #[.int .i64 T.f0, .string T.f1, .int .i64 T.f2, .int .i64 T.f3, .slice A T.f4.length c] 24)).heap[W.heap.size]? = some (.cells #[.int .i64 T.f0, .string T.f1, .int .i64 T.f2, .int .i64 T.f3, .slice A T.f4.length c] 24) := World.alloc_heap_new _ _
  simp only [encP, val24] at hy
  clear hY
  gi_wp2_with ((try refine ⟨hdd _, ?_⟩); refine hR.mono ?_; clear hR; rintro e W2 (⟨rfl, hj2, hk2⟩ | ⟨rfl, hx2⟩); first | have hc2 : W2.cell? ⟨W.heap.size, 4, none⟩ = some (.slice A T.f4.length c) := (blk_cell (hk2.keep _ _ _ _ hBW hb1) 4).trans rfl | skip)
  · -- the Kids
    have hb2 : Below w0.heap.size w0 W2 := (hW.trans hk1.below).trans hk2.below
    have hB2 : B ≤ W2.heap.size := by have := hk1.below.size; have := hk2.below.size; omega
    clear hc2 hy
    gi_loopw [14] (fun p wr => ∃ (j : Nat) (ys : List (NodP P w0)), p = .int .i64 (j : Int) ∧ j ≤ T.f4.length ∧ ys.map (·.1.1) = T :: preL24 (T.f4.take j) ∧ J (pre ++ ys) wr ∧ KpB w0.heap.size B W wr ∧ Below w0.heap.size w0 wr ∧ B ≤ wr.heap.size)
      (fun p wr => T.f4.length - (intOf p).toNat)
    case atStart => exact ⟨0, [⟨(T, A, c), hPT, hC, hc⟩], rfl, Nat.zero_le _, by simp [preL24], hj2, hk1.trans hk2, hb2, hB2⟩
    case round =>
      obtain ⟨j, ys, rfl, hjl, hys, hjj, hkr, hbr, hBr⟩ := hrel
      by_cases hlt : j < T.f4.length
      · have hlt' : (j : Int) < (T.f4.length : Int) := by omega
        have hge : (0 : Int) ≤ (j : Int) := by omega
        obtain ⟨ad, A4, c4, rfl, e0, e1, e2, e3, e4, el, eC⟩ := elem24 hC hbr j hlt
        have hys' : (pre ++ ys).length + (pre24 T.f4[j]).length ≤ N := by
          have h1 : ys.length = 1 + (preL24 (T.f4.take j)).length := by
            have := congrArg List.length hys; simp at this; omega
          have h2 := congrArg List.length (preL24_take T.f4 j hlt)
          have h3 : preL24 T.f4 = preL24 (T.f4.take (j + 1)) ++ preL24 (T.f4.drop (j + 1)) := by rw [← preL24_append, List.take_append_drop]
          have h4 := congrArg List.length h3
          simp only [List.length_append] at h2 h4 ⊢
          omega
        have hk3 : KpB w0.heap.size B wr (wr.alloc (.cells #[.int .i64 T.f4[j].f0, .string T.f4[j].f1, .int .i64 T.f4[j].f2, .int .i64 T.f4[j].f3, .slice A4 T.f4[j].f4.length c4] 24)) := KpB.of_below ((Below.refl _ wr).alloc (Nat.le_refl _) _) (Nat.le_trans hB hBr)
        have hih := ih T.f4[j] (List.getElem_mem hlt) (n - 1) A4 c4 (pre ++ ys) (wr.alloc (.cells #[.int .i64 T.f4[j].f0, .string T.f4[j].f1, .int .i64 T.f4[j].f2, .int .i64 T.f4[j].f3, .slice A4 T.f4[j].f4.length c4] 24)) (hP T hPT _ (List.getElem_mem hlt)) eC el (hbr.trans hk3.below) (by simp; omega) (hJ _ _ _ none hjj (World.grownBy_alloc wr _ none) (fun r e => by cases e)) hys'
        simp only [val24] at hih
        clear ih
        gi_wp2_with ((try refine ⟨hdd _, ?_⟩); gi_at_call 70; refine hih.mono ?_; clear hih; rintro e W3 (⟨rfl, ⟨zs, hzs, hj3⟩, hk4⟩ | ⟨rfl, q, hq, hx3⟩))
        · -- it goes on
          go_roundw
          case rel =>
            refine ⟨j + 1, ys ++ zs, ?_, hlt, ?_, by rw [← List.append_assoc]; exact hj3, (hkr.trans hk3).trans hk4, (hbr.trans hk3.below).trans hk4.below, ?_⟩
            · rw [hwj0.out j hlt]
            · rw [List.map_append, hys, hzs, preL24_take _ _ hlt]; simp
            · have := hk3.below.size; have := hk4.below.size; omega
          case measure =>
            rw [hwj0.out j hlt]; show T.f4.length - (((j + 1 : Nat) : Int)).toNat < T.f4.length - (j : Int).toNat; omega
        · go_ret
          refine .inr ⟨rfl, ys ++ q, ?_, by rw [← List.append_assoc]; exact hx3⟩
          rw [pre24_eq, List.map_append, hys]
          obtain ⟨r, hr⟩ := hq
          refine ⟨r ++ preL24 (T.f4.drop (j + 1)), ?_⟩
          rw [List.cons_append, List.cons_append, List.append_assoc]
          have h3 : preL24 T.f4 = preL24 (T.f4.take (j + 1)) ++ preL24 (T.f4.drop (j + 1)) := by rw [← preL24_append, List.take_append_drop]
          rw [h3, preL24_take _ _ hlt, ← hr]
          simp
      · have hje : j = T.f4.length := by omega
        subst hje
        have hlt' : ¬ ((T.f4.length : Int) < (T.f4.length : Int)) := by omega
        gi_wp2
        go_ret
        refine .inl ⟨rfl, ⟨ys, by rw [hys, List.take_length, pre24_eq], hjj⟩, hkr⟩
  · go_ret
    exact .inr ⟨rfl, [⟨(T, A, c), hPT, hC, hc⟩], ⟨preL24 T.f4, by rw [pre24_eq]; rfl⟩, hx2⟩
set_option maxRecDepth 100000 in
set_option maxHeartbeats 2000000 in
/-- nodes$1 -/
theorem nodesP1_in (P : S24 → Prop) (hP : ∀ x, P x → ∀ k ∈ x.f4, P k) (F : Fence) (hd : F.depth = none) (n : Nat) (h69 : F.fn 69) (h70 : F.fn 70) (hro : F.round = none) (w0 : World) (B : Nat) (hB : w0.heap.size ≤ B) (l N : Nat) (hNb : N < 4611686018427387904) (J Jx : List (NodP P w0) → World → Prop) {B1 : Nat} (hJ : AbidesFrom B1 J) (T : S24) (hPT : P T) (A : Option Addr) (c : Nat) (bn : Nat)
    (hN : (pre24 T).length ≤ N) (hC : k24.C w0 A T.f4.length T.f4) (hc : T.f4.length ≤ c)
    (hY : ∀ pre x W, J pre W → pre.length < N → YieldAt F (n - 1) Try.prog l (encP x) W fun e W' =>
      (e = .returned (.bool true) ∧ J (pre ++ [x]) W' ∧ KpB w0.heap.size B W W') ∨ (e = .returned (.bool false) ∧ Jx (pre ++ [x]) W'))
    (W : World) (hbn : W.heap[bn]? = some (.cells #[.int .i64 T.f0, .string T.f1, .int .i64 T.f2, .int .i64 T.f3, .slice A T.f4.length c] 24)) (hW : Below w0.heap.size w0 W) (hBW : B ≤ W.heap.size) (h0 : J [] W) :
    CallsIn F n Try.prog 69 #[.func (.yield l) #[] #[], .pointer (some ⟨bn, 0, none⟩)] W fun e W' => (∃ v, e = .returned v) ∧
      ((∃ ys : List (NodP P w0), ys.map (·.1.1) = pre24 T ∧ J ys W') ∨ (∃ pre : List (NodP P w0), pre.map (·.1.1) <+: pre24 T ∧ Jx pre W')) := by
  have hdd : ∀ k : Nat, (F.depth.isSome = true → 1 ≤ k) := fun k h => by rw [hd] at h; cases h
  have hp := visitP_in P hP F hd h70 hro w0 B hB l N hNb J Jx hJ (fun m pre x W hj hl => YieldAt.anyDepth hd m (hY pre x W hj hl)) T (n - 1) A c [] W hPT hC hc hW hBW h0 (by simpa using hN)
  simp only [val24, List.nil_append] at hp
  have hu24 := Try.underlying24
  have hc0 : W.cell? ⟨bn, 0, none⟩ = some (.int .i64 T.f0) := (blk_cell hbn 0).trans rfl
  have hc1 : W.cell? ⟨bn, 1, none⟩ = some (.string T.f1) := (blk_cell hbn 1).trans rfl
  have hc2 : W.cell? ⟨bn, 2, none⟩ = some (.int .i64 T.f2) := (blk_cell hbn 2).trans rfl
  have hc3 : W.cell? ⟨bn, 3, none⟩ = some (.int .i64 T.f3) := (blk_cell hbn 3).trans rfl
  have hc4 : W.cell? ⟨bn, 4, none⟩ = some (.slice A T.f4.length c) := (blk_cell hbn 4).trans rfl
  clear hNb hY
  refine callsIn_of_wp Try.func69 rfl h69 ?_ hro
  simp only [Try.ntmps69, List.size_toArray, List.length_cons, List.length_nil, Nat.reduceAdd, Nat.reduceSub, Array.replicate_succ, Array.replicate_zero, List.push_toArray, List.append_toArray, List.nil_append, List.cons_append]
  gi_wp2_with ((try refine ⟨hdd _, ?_⟩); gi_at_call 70; refine hp.mono ?_; clear hp; rintro e W1 (⟨rfl, hy1, _⟩ | ⟨rfl, hx1⟩))
  · go_end0
    exact ⟨⟨_, rfl⟩, .inl hy1⟩
  · go_end0
    exact ⟨⟨_, rfl⟩, .inr hx1⟩

theorem nodesP_stops (P : S24 → Prop) (hP : ∀ x, P x → ∀ k ∈ x.f4, P k) (F : Fence) (hd : F.depth = none) (n : Nat) (h69 : F.fn 69) (h70 : F.fn 70) (hro : F.round = none) (w0 w : World) (hb : Below w0.heap.size w0 w) (bn : Nat) (T : S24) (hPT : P T) (A : Option Addr) (c : Nat) (hC : k24.C w0 A T.f4.length T.f4) (hc : T.f4.length ≤ c)
    (hNb : (pre24 T).length < 4611686018427387904)
    (hbn : w.heap[bn]? = some (.cells #[.int .i64 T.f0, .string T.f1, .int .i64 T.f2, .int .i64 T.f3, .slice A T.f4.length c] 24)) :
    SeqStopsK F n Try.prog 69 #[.pointer (some ⟨bn, 0, none⟩)] (encP (P := P) (w0 := w0)) (KpB w0.heap.size w.heap.size) (fun ys => ys.map (·.1.1) = pre24 T) (fun pre => pre.map (·.1.1) <+: pre24 T) (pre24 T).length w := fun l J Jx W hW hJ _ hY h0 =>
  nodesP1_in P hP F hd n h69 h70 hro w0 w.heap.size hb.size l (pre24 T).length hNb J Jx hJ T hPT A c bn (Nat.le_refl _) hC hc hY W ((hW.block bn (Array.getElem?_eq_some_iff.1 hbn).1).trans hbn) (hb.trans (hW.mono hb.size)) hW.size h0

end Go.Proofs.Ytbheobngeocdfaa.PAll
namespace Go.Proofs.Ytbheobngeocdfaa.PAll
open Go.RowKit Go.Shelf Go.Proofs.YtbheobngeocdfaaW.PrintWords
set_option linter.unusedVariables false
set_option linter.unusedSimpArgs false
attribute [local go_sem] Oper.semAt_some

def tree_Count.f (a0_0 : Int) (a0_1 : ByteArray) (a0_2 : Int) (a0_3 : Int) (l0_4 : List S24) : Option Int :=
  if (pre24 ⟨a0_0, a0_1, a0_2, a0_3, l0_4⟩).length < 4611686018427387904 then some ((pre24 ⟨a0_0, a0_1, a0_2, a0_3, l0_4⟩).length : Int) else none

theorem cell_new_c (W : World) (v : Value) (t : TypeId) : (W.alloc (.cells #[v] t)).cell? ⟨W.heap.size, 0, none⟩ = some v ∧ (W.alloc (.cells #[v] t)).frozen? ⟨W.heap.size, 0, none⟩ = false := by
  have h := World.alloc_heap_new W (.cells #[v] t)
  exact ⟨(blk_cell h 0).trans rfl, blk_frozen h 0⟩
theorem cell_alloc_c {W : World} {a : Addr} {v : Value} (o : Obj) (h : W.cell? a = some v) : (W.alloc o).cell? a = some v := Go.cell_kept h (World.grownBy_alloc W o none) (fun r e => by cases e)
theorem frozen_alloc_c {W : World} {a : Addr} {v : Value} (o : Obj) (h : W.cell? a = some v) (hf : W.frozen? a = false) : (W.alloc o).frozen? a = false := (Go.frozen_kept h (World.grownBy_alloc W o none) (fun r e => by cases e)).trans hf

set_option maxRecDepth 100000 in
set_option maxHeartbeats 4000000 in
theorem Count_in (F : Fence) (hd : F.depth = none) (n : Nat) (h22 : F.fn 22) (h50 : F.fn 50) (h69 : F.fn 69) (h70 : F.fn 70) (hro : F.round = none) (hn : 3 ≤ n) (T : S24) (A : Option Addr) (c : Nat) (w : World) (hC : k24.C w A T.f4.length T.f4) (hc : T.f4.length ≤ c)
    (hNb : (pre24 T).length < 4611686018427387904) :
    CallsIn F n Try.prog 22 #[val24 T A c] w fun e w' => e = .returned (.int .i64 (pre24 T).length) ∧ Below w.heap.size w w' := by
  have h1 : 1 ≤ n := by omega
  have hdd : ∀ k : Nat, (F.depth.isSome = true → 1 ≤ k) := fun k h => by rw [hd] at h; cases h
  have HNb := Aside0.mk hNb
  clear hNb
  have hu24 := Try.underlying24
  refine callsIn_of_wp_marks Try.func22 rfl h22 ?_ hro
  simp only [val24, Try.ntmps22, List.size_toArray, List.length_cons, List.length_nil, Nat.reduceAdd, Nat.reduceSub, Array.replicate_succ, Array.replicate_zero, List.push_toArray, List.append_toArray, List.nil_append, List.cons_append]
  have hno := fun w => nodes_in F (n - 1) h50 hro T A c w
  simp only [val24] at hno
  gi_wp2_with (gi_at_call 50; refine (hno _).mono ?_; rintro e w' ⟨rfl, rfl⟩)
  clear hno
  obtain ⟨W1, hW1⟩ : ∃ W1, (((w.alloc (Obj.cells #[Value.int IntKind.i64 T.f0, Value.string T.f1, Value.int IntKind.i64 T.f2, Value.int IntKind.i64 T.f3, Value.slice A T.f4.length c] 24)).alloc (Obj.cells #[Value.int IntKind.i64 0] 3)).alloc (Obj.cells #[Value.int IntKind.i64 T.f0, Value.string T.f1, Value.int IntKind.i64 T.f2, Value.int IntKind.i64 T.f3, Value.slice A T.f4.length c] 24)) = W1 := ⟨_, rfl⟩
  have hsz : W1.heap.size = w.heap.size + 3 := by rw [← hW1]; simp
  have hs : W1.cell? ⟨w.heap.size + 1, 0, none⟩ = some (.int .i64 0) ∧ W1.frozen? ⟨w.heap.size + 1, 0, none⟩ = false := by
    have h := cell_new_c (w.alloc (Obj.cells #[Value.int IntKind.i64 T.f0, Value.string T.f1, Value.int IntKind.i64 T.f2, Value.int IntKind.i64 T.f3, Value.slice A T.f4.length c] 24)) (.int .i64 0) 3
    rw [World.size_alloc] at h
    rw [← hW1]
    exact ⟨cell_alloc_c _ h.1, frozen_alloc_c _ h.1 h.2⟩
  have hbn : W1.heap[w.heap.size + 1 + 1]? = some (.cells #[.int .i64 T.f0, .string T.f1, .int .i64 T.f2, .int .i64 T.f3, .slice A T.f4.length c] 24) := by
    rw [← hW1]
    have h := World.alloc_heap_new ((w.alloc (Obj.cells #[Value.int IntKind.i64 T.f0, Value.string T.f1, Value.int IntKind.i64 T.f2, Value.int IntKind.i64 T.f3, Value.slice A T.f4.length c] 24)).alloc (Obj.cells #[Value.int IntKind.i64 0] 3)) (Obj.cells #[Value.int IntKind.i64 T.f0, Value.string T.f1, Value.int IntKind.i64 T.f2, Value.int IntKind.i64 T.f3, Value.slice A T.f4.length c] 24)
    rwa [World.size_alloc, World.size_alloc] at h
  have hB0 : Below w.heap.size w W1 := by
    rw [← hW1]
    exact (((Below.refl _ w).alloc (Nat.le_refl _) _).alloc (by simp) _).alloc (by simp; omega) _
  rw [hW1]
  clear hW1
  refine wpIn_rangeFunc_ownF hro h1 (gf := 69) (lb := #[.pointer (some ⟨w.heap.size + 1 + 1, 0, none⟩)]) rfl h69 (enters_of Try.func69 (by kernel_rfl) rfl)
    (nodes_stops F hd (n - 1) h69 h70 hro w W1 hB0 (w.heap.size + 1 + 1) T A c hC hc HNb.out hbn) (fun h k => h.trans k) (fun W l o o' hl h ho hw => KpB.turn (w := W1) hB0.size W l o o' hl h ho hw) (Below.refl _ _) (fun _ => rfl)
    (fun pre W => (W.cell? ⟨w.heap.size + 1, 0, none⟩ = some (.int .i64 (pre.length : Int)) ∧ W.frozen? ⟨w.heap.size + 1, 0, none⟩ = false) ∧ Below w.heap.size w W)
    (fun _ _ _ => False)
    (OwnFrom.and (Own.from (fun s A B row hs hg hr => ⟨Go.cell_kept hs.1 hg hr, (Go.frozen_kept hs.1 hg hr).trans hs.2⟩) _) (ownFrom_below (Nat.le_refl _) (by omega)))
    (fun _ _ _ _ _ hs _ _ => hs)
    ⟨hs, hB0⟩
    (fun x => { tmps := #[Value.agg #[Value.int IntKind.i64 T.f0, Value.string T.f1, Value.int IntKind.i64 T.f2, Value.int IntKind.i64 T.f3, Value.slice A T.f4.length c],
          Value.pointer (some { block := w.heap.size, off := 0 }), Value.int IntKind.i64 0, Value.pointer (some { block := w.heap.size + 1, off := 0 }),
          Value.agg #[Value.int IntKind.i64 T.f0, Value.string T.f1, Value.int IntKind.i64 T.f2, Value.int IntKind.i64 T.f3, Value.slice A T.f4.length c],
          Value.func (Fn.func 69) #[] #[Value.pointer (some { block := w.heap.size + 1 + 1, off := 0 })], val24 x.1.1 x.1.2.1 x.1.2.2, undef, undef, undef], defers := [] }) ?assign ?body ?done ?stop
  case assign =>
    intro l x W K hK
    simp only [encN]
    gi_wp2
    simpa using hK
  case body =>
    rintro l pre x W ⟨⟨hc, hf⟩, hB⟩ hlen
    have hlen2 := Aside0.mk (Nat.lt_trans hlen HNb.out)
    clear hlen
    gi_wp2
    have hwj : wrap64 ((pre.length : Int) + 1) = ((pre ++ [x]).length : Int) := by
      rw [wrap64_small24 (by have := hlen2.out; omega)]; simp
    refine ⟨KeepsOthers.setCell _ _ _, ⟨(Below.refl w.heap.size W).setCell (p := ⟨w.heap.size + 1, 0, none⟩) (by simp) _, ?_⟩, ⟨by rw [← hwj]; exact World.cell?_setCell_same' _ _ _ (by rw [hc]; rfl), by rw [World.frozen?_setCell]; exact hf⟩, hB.setCell (p := ⟨w.heap.size + 1, 0, none⟩) (by simp) _⟩
    intro b cs t fr hb hcs
    rw [Below.heap_setCell _ _ _ _ (by show b ≠ w.heap.size + 1; omega)]
    exact hcs
  case done =>
    rintro D ys W hD hys ⟨⟨hc, _⟩, hB⟩ hK
    gi_wp2
    refine ⟨by simp, .inl ⟨_, _, rfl, run_takeDeferred hK, ?_⟩⟩
    have hl : ys.length = (pre24 T).length := by rw [← hys, List.length_map]
    exact ⟨_, results_tmp rfl _ _ _, by show Ending.returned (.int .i64 (ys.length : Int)) = _; rw [hl], hB.trans (belowK_b (w := w) (Nat.le_refl _) W D _ _ (by omega) hK rfl rfl)⟩
  case stop =>
    rintro D c pre W _ _ h _
    exact h.elim

theorem tree_Count.calls (a0_0 : Int) (a0_1 : ByteArray) (a0_2 : Int) (a0_3 : Int) (A0_4 : Option Addr) (c0_4 : Nat) (l0_4 : List (S24)) (r : Int) (w : World) (hr0_4 : Kd.C k24 w A0_4 l0_4.length l0_4) (hc0_4 : l0_4.length ≤ c0_4) (h : tree_Count.f a0_0 a0_1 a0_2 a0_3 l0_4 = some r) :
    Calls Try.prog 22 #[.agg #[.int .i64 a0_0, .string a0_1, .int .i64 a0_2, .int .i64 a0_3, .slice A0_4 l0_4.length c0_4]] w fun e w' => e = .returned (.int .i64 r) ∧ Below w.heap.size w w' := by
  unfold tree_Count.f at h
  split at h
  case isFalse => simp at h
  rename_i hn
  obtain rfl := Option.some.inj h
  refine (callsIn_wide (n := 3)).1 ?_
  exact Count_in _ rfl 3 trivial trivial trivial trivial rfl (Nat.le_refl _) ⟨a0_0, a0_1, a0_2, a0_3, l0_4⟩ A0_4 c0_4 w hr0_4 hc0_4 hn

end Go.Proofs.Ytbheobngeocdfaa.PAll
namespace Go.Proofs.Ytbheobngeocdfaa.PAll
open Go.RowKit Go.Proofs.YtbheobngeocdfaaW.PrintWords Go.Proofs.YtbheobngeocdfaaW.PrintLast Go.Proofs.YtbheobngeocdfaaW.PrintMore
set_option linter.unusedVariables false
set_option linter.unusedSimpArgs false

mutual
/-- equal but for their places -/
def same24 : S24 → S24 → Bool
  | ⟨a, b, _, _, ks⟩, y => if a = y.f0 then (if b.toList = y.f1.toList then sameL24 ks y.f4 else false) else false
def sameL24 : List S24 → List S24 → Bool
  | [], ys => ys.isEmpty
  | x :: xs, ys => match ys with | [] => false | y :: ys => same24 x y && sameL24 xs ys
end
theorem same24_eq (x y : S24) : same24 x y = if x.f0 = y.f0 then (if x.f1.toList = y.f1.toList then sameL24 x.f4 y.f4 else false) else false := by cases x; simp [same24]
theorem sameL24_length {xs ys : List S24} (h : xs.length ≠ ys.length) : sameL24 xs ys = false := by
  induction xs generalizing ys with
  | nil => cases ys with | nil => simp at h | cons y ys => simp [sameL24]
  | cons x xs ih =>
    cases ys with
    | nil => simp [sameL24]
    | cons y ys => simp only [sameL24, Bool.and_eq_false_imp]; intro _; exact ih (by simpa using h)
theorem sameL24_drop {xs ys : List S24} {j : Nat} (h1 : j < xs.length) (h2 : j < ys.length) : sameL24 (xs.drop j) (ys.drop j) = (same24 xs[j] ys[j] && sameL24 (xs.drop (j + 1)) (ys.drop (j + 1))) := by
  rw [List.drop_eq_getElem_cons h1, List.drop_eq_getElem_cons h2]; simp [sameL24]

def SameOk (x : S24) : Prop := (pre24 x).length < 4611686018427387904 → ∀ (y : S24) (A : Option Addr) (c : Nat) (A' : Option Addr) (c' : Nat) (w : World), k24.C w A x.f4.length x.f4 → x.f4.length ≤ c → k24.C w A' y.f4.length y.f4 → y.f4.length ≤ c' →
  Calls Try.prog 21 #[val24 x A c, val24 y A' c'] w fun e w' => e = .returned (.bool (same24 x y)) ∧ Below w.heap.size w w'

theorem pre_mem24 {xs : List S24} {j : Nat} (h : j < xs.length) : (pre24 xs[j]).length ≤ (preL24 xs).length := by
  have h2 := congrArg List.length (preL24_take xs j h)
  have h3 : preL24 xs = preL24 (xs.take (j + 1)) ++ preL24 (xs.drop (j + 1)) := by rw [← preL24_append, List.take_append_drop]
  have h4 := congrArg List.length h3
  simp only [List.length_append] at h2 h4
  omega

set_option maxRecDepth 100000 in
set_option maxHeartbeats 4000000 in
theorem EqualFunc_calls (xs ys : List S24) (hS : ∀ x ∈ xs, SameOk x) (hn : (preL24 xs).length < 4611686018427387904) (A : Option Addr) (c : Nat) (A' : Option Addr) (c' : Nat) (w : World) (hC : k24.C w A xs.length xs) (hc : xs.length ≤ c) (hC' : k24.C w A' ys.length ys) (hc' : ys.length ≤ c') :
    Calls Try.prog 49 #[.slice A xs.length c, .slice A' ys.length c', .func (.func 21) #[] #[]] w fun e w' => e = .returned (.bool (sameL24 xs ys)) ∧ Below w.heap.size w w' := by
  have HN := Aside0.mk hn
  clear hn
  have hu24 := Try.underlying24
  have hu22 := Try.underlying22
  go_enter Try.func49, Try.ntmps49
  by_cases hl : xs.length = ys.length
  · have hl' : ((xs.length : Int) != (ys.length : Int)) = false := by simp [hl]
    have HL := Aside0.mk hl
    clear hl
    go_wp2
    go_loopw [17] (fun p wr => ∃ j : Nat, p = .int .i64 (j : Int) ∧ j ≤ xs.length ∧ sameL24 xs ys = sameL24 (xs.drop j) (ys.drop j) ∧ Below w.heap.size w wr)
      (fun p wr => xs.length - (intOf p).toNat)
    case atStart => exact ⟨0, rfl, Nat.zero_le _, by simp, Below.refl _ _⟩
    case round =>
      obtain ⟨j, rfl, hjl, hsm, hbr⟩ := hrel
      by_cases hlt : j < xs.length
      · have hlt1 : (j : Int) < (xs.length : Int) := by omega
        have hlt2 : (j : Int) < (ys.length : Int) := by have := HL.out; omega
        have hge : (0 : Int) ≤ (j : Int) := by omega
        have hlt3 : j < ys.length := by have := HL.out; omega
        obtain ⟨ad, A4, c4, rfl, e0, e1, e2, e3, e4, el, eC⟩ := elem24 hC hbr j hlt
        obtain ⟨ad', A4', c4', rfl, e0', e1', e2', e3', e4', el', eC'⟩ := elem24 hC' (hbr.alloc hbr.size (.cells #[.int .i64 xs[j].f0, .string xs[j].f1, .int .i64 xs[j].f2, .int .i64 xs[j].f3, .slice A4 xs[j].f4.length c4] 24)) j hlt3
        have hwj : (wrap64 ((j : Int) + 1)) = ((j + 1 : Nat) : Int) := wrap64_small24 (by have := HN.out; have := len_preL24 xs; omega)
        have HW := Aside0.mk hwj
        clear hwj
        have HX := Aside0.mk (hS xs[j] (List.getElem_mem hlt) (Nat.lt_of_le_of_lt (pre_mem24 hlt) HN.out) ys[j] A4 c4 A4' c4')
        go_wp2_with fail
        have hb2 : Below w.heap.size w ((wr.alloc (.cells #[.int .i64 xs[j].f0, .string xs[j].f1, .int .i64 xs[j].f2, .int .i64 xs[j].f3, .slice A4 xs[j].f4.length c4] 24)).alloc (.cells #[.int .i64 ys[j].f0, .string ys[j].f1, .int .i64 ys[j].f2, .int .i64 ys[j].f3, .slice A4' ys[j].f4.length c4'] 24)) := (hbr.alloc hbr.size _).alloc (by have := hbr.size; simp; omega) _
        have hX := HX.out ((wr.alloc (.cells #[.int .i64 xs[j].f0, .string xs[j].f1, .int .i64 xs[j].f2, .int .i64 xs[j].f3, .slice A4 xs[j].f4.length c4] 24)).alloc (.cells #[.int .i64 ys[j].f0, .string ys[j].f1, .int .i64 ys[j].f2, .int .i64 ys[j].f3, .slice A4' ys[j].f4.length c4'] 24)) (Kd.C_below eC hb2) el (Kd.C_below eC' hb2) el'
        simp only [val24] at hX
        refine hX.mono ?_
        rintro e w1 ⟨rfl, hb⟩
        have hb3 := hb2.trans (hb.mono hb2.size)
        rw [sameL24_drop hlt hlt3] at hsm
        cases hss : same24 xs[j] ys[j] with
        | true =>
          rw [hss, Bool.true_and] at hsm
          go_wp2
          go_roundw
          case rel => exact ⟨j + 1, by rw [HW.out], hlt, hsm, hb3⟩
          case measure => rw [HW.out]; show xs.length - (((j + 1 : Nat) : Int)).toNat < xs.length - (j : Int).toNat; omega
        | false =>
          rw [hss, Bool.false_and] at hsm
          go_wp2
          go_ret
          exact ⟨by rw [hsm]; rfl, hb3⟩
      · have hje : j = xs.length := by omega
        subst hje
        have hsm2 : sameL24 xs ys = true := by rw [hsm, List.drop_length, HL.out, List.drop_length]; simp [sameL24]
        clear hsm
        have hlt' : ¬ ((xs.length : Int) < (xs.length : Int)) := by omega
        go_wp2
        go_ret
        exact ⟨by first | rfl | (rw [hsm2]; rfl), hbr⟩
  · have hl' : ((xs.length : Int) != (ys.length : Int)) = true := by simp; omega
    go_wp2
    go_ret
    exact ⟨by rw [sameL24_length hl]; rfl, Below.refl _ _⟩

set_option maxRecDepth 100000 in
set_option maxHeartbeats 4000000 in
theorem SameOk_all (x : S24) : SameOk x := by
  induction x using ind24 with
  | h x ih =>
  intro hn y A c A' c' w hC hc hC' hc'
  have hn' : (preL24 x.f4).length < 4611686018427387904 := by rw [pre24_eq] at hn; simp at hn; omega
  have HE := Aside0.mk (fun (w' : World) (h : Below w.heap.size w w') => EqualFunc_calls x.f4 y.f4 ih hn' A c A' c' w' (Kd.C_below hC h) hc (Kd.C_below hC' h) hc')
  clear hn hn' ih hC hc hC' hc'
  have hu24 := Try.underlying24
  rw [same24_eq]
  simp only [val24]
  go_enter Try.func21, Try.ntmps21
  by_cases h1 : x.f0 = y.f0
  · by_cases h2 : x.f1.toList = y.f1.toList
    · rw [if_pos h1, if_pos h2]
      have h1b : (x.f0 == y.f0) = true := by simp [h1]
      have h2b : (x.f1.toList == y.f1.toList) = true := by simp [h2]
      clear h1 h2
      go_wp2_with fail
      have hb := ((Below.refl w.heap.size w).alloc (Nat.le_refl _) (.cells #[.int .i64 x.f0, .string x.f1, .int .i64 x.f2, .int .i64 x.f3, .slice A x.f4.length c] 24)).alloc (by simp) (.cells #[.int .i64 y.f0, .string y.f1, .int .i64 y.f2, .int .i64 y.f3, .slice A' y.f4.length c'] 24)
      refine (HE.out _ hb).mono ?_
      rintro e w1 ⟨rfl, hb1⟩
      go_wp2
      go_ret
      exact ⟨rfl, hb.trans (hb1.mono hb.size)⟩
    · rw [if_pos h1, if_neg h2]
      have h1b : (x.f0 == y.f0) = true := by simp [h1]
      have h2b : (x.f1.toList == y.f1.toList) = false := by simpa using h2
      clear h1 h2
      go_wp2
      go_ret
      exact ⟨rfl, ((Below.refl w.heap.size w).alloc (Nat.le_refl _) _).alloc (by simp) _⟩
  · rw [if_neg h1]
    have h1b : (x.f0 == y.f0) = false := by simpa using h1
    clear h1
    go_wp2
    go_ret
    exact ⟨rfl, ((Below.refl w.heap.size w).alloc (Nat.le_refl _) _).alloc (by simp) _⟩

def tree_Same.f (a0_0 : Int) (a0_1 : ByteArray) (a0_2 : Int) (a0_3 : Int) (l0_4 : List S24) (a1_0 : Int) (a1_1 : ByteArray) (a1_2 : Int) (a1_3 : Int) (l1_4 : List S24) : Option Bool :=
  if (pre24 ⟨a0_0, a0_1, a0_2, a0_3, l0_4⟩).length < 4611686018427387904 then some (same24 ⟨a0_0, a0_1, a0_2, a0_3, l0_4⟩ ⟨a1_0, a1_1, a1_2, a1_3, l1_4⟩) else none

theorem tree_Same.calls (a0_0 : Int) (a0_1 : ByteArray) (a0_2 : Int) (a0_3 : Int) (A0_4 : Option Addr) (c0_4 : Nat) (l0_4 : List (S24)) (a1_0 : Int) (a1_1 : ByteArray) (a1_2 : Int) (a1_3 : Int) (A1_4 : Option Addr) (c1_4 : Nat) (l1_4 : List (S24)) (r : Bool) (w : World) (hr0_4 : Kd.C k24 w A0_4 l0_4.length l0_4) (hc0_4 : l0_4.length ≤ c0_4) (hr1_4 : Kd.C k24 w A1_4 l1_4.length l1_4) (hc1_4 : l1_4.length ≤ c1_4) (h : tree_Same.f a0_0 a0_1 a0_2 a0_3 l0_4 a1_0 a1_1 a1_2 a1_3 l1_4 = some r) :
    Calls Try.prog 21 #[.agg #[.int .i64 a0_0, .string a0_1, .int .i64 a0_2, .int .i64 a0_3, .slice A0_4 l0_4.length c0_4], .agg #[.int .i64 a1_0, .string a1_1, .int .i64 a1_2, .int .i64 a1_3, .slice A1_4 l1_4.length c1_4]] w fun e w' => e = .returned (.bool r) ∧ Below w.heap.size w w' := by
  unfold tree_Same.f at h
  split at h
  case isFalse => simp at h
  rename_i hn
  obtain rfl := Option.some.inj h
  exact SameOk_all ⟨a0_0, a0_1, a0_2, a0_3, l0_4⟩ hn ⟨a1_0, a1_1, a1_2, a1_3, l1_4⟩ A0_4 c0_4 A1_4 c1_4 w hr0_4 hc0_4 hr1_4 hc1_4
end Go.Proofs.Ytbheobngeocdfaa.PAll
namespace Go.Proofs.Ytbheobngeocdfaa.PAll
open Go.RowKit Go.Proofs.YtbheobngeocdfaaW.PrintWords Go.Proofs.YtbheobngeocdfaaW.PrintLast Go.Proofs.YtbheobngeocdfaaW.PrintMore
set_option linter.unusedVariables false
set_option linter.unusedSimpArgs false

/-- the node contains the offset -/
def inside24 (at_ : Int) (x : S24) : Bool := decide (x.f2 ≤ at_) && decide (at_ < x.f3)

set_option maxRecDepth 100000 in
set_option maxHeartbeats 4000000 in
theorem Find1_calls (x : S24) (A : Option Addr) (c : Nat) (ba : Nat) (at_ : Int) (w : World) (hat : w.cell? ⟨ba, 0, none⟩ = some (.int .i64 at_)) :
    Calls Try.prog 51 #[val24 x A c, .pointer (some ⟨ba, 0, none⟩)] w fun e w' => e = .returned (.bool (inside24 at_ x)) ∧ Below w.heap.size w w' := by
  have hu24 := Try.underlying24
  have hat2 : (w.alloc (.cells #[.int .i64 x.f0, .string x.f1, .int .i64 x.f2, .int .i64 x.f3, .slice A x.f4.length c] 24)).cell? ⟨ba, 0, none⟩ = some (.int .i64 at_) := cell_alloc_c _ hat
  clear hat
  simp only [val24, inside24]
  go_enter Try.func51, Try.ntmps51
  by_cases h1 : x.f2 ≤ at_
  · have h1b : decide (x.f2 ≤ at_) = true := by simp [h1]
    rw [h1b]
    clear h1
    go_wp2
    go_ret
    exact ⟨by simp, (Below.refl w.heap.size w).alloc (Nat.le_refl _) _⟩
  · have h1b : decide (x.f2 ≤ at_) = false := by simp [h1]
    rw [h1b]
    clear h1
    go_wp2
    go_ret
    exact ⟨by simp, (Below.refl w.heap.size w).alloc (Nat.le_refl _) _⟩

/-- the index of the first that contains the offset, or -1 -/
def idx24 (at_ : Int) (xs : List S24) : Int := match xs.findIdx? (inside24 at_) with | some j => (j : Int) | none => -1

set_option maxRecDepth 100000 in
set_option maxHeartbeats 4000000 in
theorem IndexFunc_calls (xs : List S24) (hn : xs.length < 4611686018427387904) (A : Option Addr) (c : Nat) (ba : Nat) (at_ : Int) (w : World) (hC : k24.C w A xs.length xs) (hc : xs.length ≤ c) (hat : w.cell? ⟨ba, 0, none⟩ = some (.int .i64 at_)) :
    Calls Try.prog 52 #[.slice A xs.length c, .func (.func 51) #[] #[.pointer (some ⟨ba, 0, none⟩)]] w fun e w' => e = .returned (.int .i64 (idx24 at_ xs)) ∧ Below w.heap.size w w' := by
  have HN := Aside0.mk hn
  clear hn
  have hu24 := Try.underlying24
  have hu22 := Try.underlying22
  go_enter Try.func52, Try.ntmps52
  go_wp2
  go_loopw [8] (fun p wr => ∃ j : Nat, p = .int .i64 (j : Int) ∧ j ≤ xs.length ∧ (∀ i (h : i < xs.length), i < j → inside24 at_ xs[i] = false) ∧ Below w.heap.size w wr)
      (fun p wr => xs.length - (intOf p).toNat)
  case atStart => exact ⟨0, rfl, Nat.zero_le _, fun i _ h => absurd h (Nat.not_lt_zero _), Below.refl _ _⟩
  case round =>
    obtain ⟨j, rfl, hjl, hsm, hbr⟩ := hrel
    by_cases hlt : j < xs.length
    · have hlt1 : (j : Int) < (xs.length : Int) := by omega
      have hge : (0 : Int) ≤ (j : Int) := by omega
      obtain ⟨ad, A4, c4, rfl, e0, e1, e2, e3, e4, el, eC⟩ := elem24 hC hbr j hlt
      have HW : Aside0 (wrap64 ((j : Int) + 1) = ((j + 1 : Nat) : Int)) := ⟨wrap64_small24 (by have := HN.out; omega)⟩
      have hX := Find1_calls xs[j] A4 c4 ba at_ wr ((hbr.cell (World.block_lt_of_cell? w _ hat)).trans hat)
      simp only [val24] at hX
      go_wp2_with fail
      refine hX.mono ?_
      rintro e w1 ⟨rfl, hb⟩
      have hb3 := hbr.trans (hb.mono hbr.size)
      cases hss : inside24 at_ xs[j] with
      | true =>
        go_wp2
        go_ret
        have hi : xs.findIdx? (inside24 at_) = some j := by
          rw [List.findIdx?_eq_some_iff_getElem]
          exact ⟨hlt, hss, fun i hi => by simp [hsm i (by omega) hi]⟩
        refine ⟨by unfold idx24; rw [hi]; rfl, hb3⟩
      | false =>
        go_wp2
        go_roundw
        case rel =>
          refine ⟨j + 1, by rw [HW.out], hlt, fun i h hi => ?_, hb3⟩
          by_cases hij : i = j
          · subst hij; exact hss
          · exact hsm i h (by omega)
        case measure => rw [HW.out]; show xs.length - (((j + 1 : Nat) : Int)).toNat < xs.length - (j : Int).toNat; omega
    · have hje : j = xs.length := by omega
      have hlt' : ¬ ((j : Int) < (xs.length : Int)) := by omega
      have hi : xs.findIdx? (inside24 at_) = none := by
        rw [List.findIdx?_eq_none_iff_findIdx_eq, List.findIdx_eq_length]
        intro x hx
        obtain ⟨i, hi, rfl⟩ := List.getElem_of_mem hx
        exact hsm i hi (by omega)
      go_wp2
      go_ret
      exact ⟨by unfold idx24; rw [hi]; rfl, hbr⟩
end Go.Proofs.Ytbheobngeocdfaa.PAll
namespace Go.Proofs.Ytbheobngeocdfaa.PAll
open Go.RowKit Go.Proofs.YtbheobngeocdfaaW.PrintWords Go.Proofs.YtbheobngeocdfaaW.PrintLast Go.Proofs.YtbheobngeocdfaaW.PrintMore
set_option linter.unusedVariables false
set_option linter.unusedSimpArgs false

mutual
/-- the number of the innermost node that contains the offset, of a node that contains it and has the number out -/
def find24 (at_ : Int) : S24 → Nat → Nat
  | ⟨_, _, _, _, ks⟩, out => findL24 at_ ks (out + 1) out
def findL24 (at_ : Int) : List S24 → Nat → Nat → Nat
  | [], _, out => out
  | k :: ks, acc, out => if inside24 at_ k then find24 at_ k acc else findL24 at_ ks (acc + (pre24 k).length) out
end
theorem find24_eq (at_ : Int) (x : S24) (out : Nat) : find24 at_ x out = findL24 at_ x.f4 (out + 1) out := by cases x; simp [find24]
theorem findL24_none {at_ : Int} {xs : List S24} (h : ∀ i (h : i < xs.length), inside24 at_ xs[i] = false) (acc out : Nat) : findL24 at_ xs acc out = out := by
  induction xs generalizing acc with
  | nil => simp [findL24]
  | cons x xs ih =>
    have h0 := h 0 (by simp)
    simp only [List.getElem_cons_zero] at h0
    simp only [findL24, h0, Bool.false_eq_true, if_false]
    exact ih (fun i hi => by have := h (i + 1) (by simp; omega); simpa using this) _
theorem findL24_some {at_ : Int} {xs : List S24} {j : Nat} (hj : j < xs.length) (h : ∀ i (h : i < xs.length), i < j → inside24 at_ xs[i] = false) (hi : inside24 at_ xs[j] = true) (acc out : Nat) :
    findL24 at_ xs acc out = find24 at_ xs[j] (acc + (preL24 (xs.take j)).length) := by
  induction xs generalizing acc j with
  | nil => simp at hj
  | cons x xs ih =>
    cases j with
    | zero =>
      simp only [List.getElem_cons_zero] at hi
      simp [findL24, hi, preL24]
    | succ j =>
      have h0 := h 0 (by simp) (by omega)
      simp only [List.getElem_cons_zero] at h0
      simp only [findL24, h0, Bool.false_eq_true, if_false]
      rw [ih (j := j) (by simpa using hj) (fun i hi hij => by have := h (i + 1) (by simp; omega) (by omega); simpa using this) (by simpa using hi)]
      simp [preL24, Nat.add_assoc]

theorem idx24_cases (at_ : Int) (xs : List S24) : (idx24 at_ xs = -1 ∧ ∀ i (h : i < xs.length), inside24 at_ xs[i] = false) ∨
    (∃ j : Nat, ∃ hj : j < xs.length, idx24 at_ xs = (j : Int) ∧ (∀ i (h : i < xs.length), i < j → inside24 at_ xs[i] = false) ∧ inside24 at_ xs[j] = true) := by
  unfold idx24
  cases hf : xs.findIdx? (inside24 at_) with
  | none =>
    refine .inl ⟨rfl, fun i hi => ?_⟩
    rw [List.findIdx?_eq_none_iff] at hf
    exact hf _ (List.getElem_mem hi)
  | some j =>
    rw [List.findIdx?_eq_some_iff_getElem] at hf
    obtain ⟨hj, h1, h2⟩ := hf
    exact .inr ⟨j, hj, rfl, fun i hi hij => by simpa using h2 i hij, h1⟩

theorem Count_calls (x : S24) (A : Option Addr) (c : Nat) (w : World) (hC : k24.C w A x.f4.length x.f4) (hc : x.f4.length ≤ c) (hn : (pre24 x).length < 4611686018427387904) :
    Calls Try.prog 22 #[val24 x A c] w fun e w' => e = .returned (.int .i64 ((pre24 x).length : Int)) ∧ Below w.heap.size w w' :=
  (callsIn_wide (n := 3)).1 (Count_in _ rfl 3 trivial trivial trivial trivial rfl (Nat.le_refl _) x A c w hC hc hn)

set_option maxRecDepth 100000 in
set_option maxHeartbeats 8000000 in
theorem Find_calls (T : S24) (hn : (pre24 T).length < 4611686018427387904) (A : Option Addr) (c : Nat) (at_ : Int) (w : World) (hC : k24.C w A T.f4.length T.f4) (hc : T.f4.length ≤ c) :
    Calls Try.prog 30 #[val24 T A c, .int .i64 at_] w fun e w' => e = .returned (.tuple #[.int .i64 (if inside24 at_ T then (find24 at_ T 0 : Int) else 0), .bool (inside24 at_ T)]) ∧ Below w.heap.size w w' := by
  have HN := Aside0.mk hn
  clear hn
  have hu24 := Try.underlying24
  have hu22 := Try.underlying22
  obtain ⟨R, hR⟩ : ∃ R : Int, R = (if inside24 at_ T then (find24 at_ T 0 : Int) else 0) := ⟨_, rfl⟩
  obtain ⟨bI, hbI⟩ : ∃ bI : Bool, bI = inside24 at_ T := ⟨_, rfl⟩
  rw [← hR, ← hbI]
  rw [← hbI] at hR
  have HR := Aside0.mk hR
  have HI0 := Aside0.mk hbI
  clear hR hbI
  simp only [val24]
  go_enter Try.func30, Try.ntmps30
  have HX := Aside0.mk (fun w' h => Find1_calls T A c (w.heap.size + 1) at_ w' h)
  simp only [val24] at HX
  go_wp2_with fail
  obtain ⟨W1, hW1⟩ : ∃ W1, ((w.alloc (.cells #[.int .i64 T.f0, .string T.f1, .int .i64 T.f2, .int .i64 T.f3, .slice A T.f4.length c] 24)).alloc (.cells #[.int .i64 at_] 3)) = W1 := ⟨_, rfl⟩
  rw [hW1]
  have hb1 : Below w.heap.size w W1 := by rw [← hW1]; exact ((Below.refl w.heap.size w).alloc (Nat.le_refl _) _).alloc (by simp) _
  have hbn1 : W1.heap[w.heap.size]? = some (.cells #[.int .i64 T.f0, .string T.f1, .int .i64 T.f2, .int .i64 T.f3, .slice A T.f4.length c] 24 (0, 0)) := by rw [← hW1]; exact blk_alloc (blk_new w _) _
  have hat1 : W1.cell? ⟨w.heap.size + 1, 0, none⟩ = some (.int .i64 at_) := by
    rw [← hW1]
    have h := cell_new_c (w.alloc (.cells #[.int .i64 T.f0, .string T.f1, .int .i64 T.f2, .int .i64 T.f3, .slice A T.f4.length c] 24)) (.int .i64 at_) 3
    rw [World.size_alloc] at h
    exact h.1
  have hsz1 : W1.heap.size = w.heap.size + 2 := by rw [← hW1]; simp
  clear hW1
  refine (HX.out W1 hat1).mono ?_
  clear HX
  rintro e W2 ⟨rfl, hb⟩
  rw [← HI0.out]
  have hb2 : Below w.heap.size w W2 := hb1.trans (hb.mono hb1.size)
  have hbn2 := blk_below hbn1 hb
  have hat2 : W2.cell? ⟨w.heap.size + 1, 0, none⟩ = some (.int .i64 at_) := (hb.cell (World.block_lt_of_cell? W1 _ hat1)).trans hat1
  have hsz2 : w.heap.size + 2 ≤ W2.heap.size := by have := hb.size; omega
  clear hbn1 hat1 hsz1 hb1 hb
  cases hin : bI with
  | false =>
    have hR0 : R = 0 := by rw [HR.out, hin]; simp
    subst hR0
    subst hin
    go_wp2
    refine bodyPost_ret (results_tmp2 rfl _ _ _) rfl ?_
    exact ⟨rfl, hb2⟩
  | true =>
    have hR0 : R = (find24 at_ T 0 : Int) := by rw [HR.out, hin]; simp
    have HR0 := Aside0.mk hR0
    subst hin
    clear HR HI0 hR0
    have HBN := Aside0.mk hbn2
    have HAT := Aside0.mk hat2
    have HSZ := Aside0.mk hsz2
    have HB := Aside0.mk hb2
    have HC := Aside0.mk hC
    have HCC := Aside0.mk hc
    clear hbn2 hat2 hsz2 hb2 hC hc
    go_wp2_with fail
    go_loopw [7] (fun p wr => ∃ (x : S24) (o : Nat) (A : Option Addr) (c : Nat), p = .int .i64 (o : Int) ∧ Aside0 (wr.heap[w.heap.size]? = some (.cells #[.int .i64 x.f0, .string x.f1, .int .i64 x.f2, .int .i64 x.f3, .slice A x.f4.length c] 24 (0, 0))) ∧ Aside0 (wr.cell? ⟨w.heap.size + 1, 0, none⟩ = some (.int .i64 at_)) ∧ Aside0 (k24.C w A x.f4.length x.f4) ∧ Aside0 (x.f4.length ≤ c) ∧ Aside0 (find24 at_ T 0 = find24 at_ x o) ∧ Aside0 (o + (pre24 x).length ≤ (pre24 T).length) ∧ Aside0 (Below w.heap.size w wr))
      (fun p wr => (pre24 T).length - (intOf p).toNat)
    case atStart => exact ⟨T, 0, A, c, rfl, HBN, HAT, HC, HCC, ⟨rfl⟩, ⟨by omega⟩, HB⟩
    case round =>
      clear HBN HAT HSZ HB HC HCC
      obtain ⟨x, o, A1, c1, rfl, HBN, HAT, HC, HCC, HF, HO, HB⟩ := hrel
      have hk : wr.cell? ⟨w.heap.size, 4, none⟩ = some (.slice A1 x.f4.length c1) := (blk_cell HBN.out 4).trans rfl
      have hpx : (pre24 x).length = 1 + (preL24 x.f4).length := by rw [pre24_eq]; simp; omega
      have HP := Aside0.mk hpx
      clear hpx
      have HI := Aside0.mk (IndexFunc_calls x.f4 (by have := HN.out; have := HO.out; have := len_preL24 x.f4; have := HP.out; omega) A1 c1 (w.heap.size + 1) at_ wr (Kd.C_below HC.out HB.out) HCC.out HAT.out)
      go_wp2_with fail
      refine HI.out.mono ?_
      clear HI hk
      rintro e w1 ⟨rfl, hb⟩
      have HB1 := Aside0.mk (HB.out.trans (hb.mono HB.out.size))
      have HBN1 := Aside0.mk (blk_below HBN.out hb)
      have HAT1 := Aside0.mk ((hb.cell (World.block_lt_of_cell? wr _ HAT.out)).trans HAT.out)
      clear hb
      rcases idx24_cases at_ x.f4 with ⟨hi, hno⟩ | ⟨j, hj, hi, hno, hyes⟩
      · rw [hi]
        have HNO := Aside0.mk hno
        clear hno hi
        have he : R = (o : Int) := by rw [HR0.out, HF.out, find24_eq, findL24_none HNO.out]
        have HR1 := Aside0.mk he
        clear he
        go_wp2
        refine bodyPost_ret (results_tmp2 rfl _ _ _) rfl ?_
        exact ⟨by rw [HR1.out]; rfl, HB1.out⟩
      · rw [hi]
        have HNO := Aside0.mk hno
        have HYES := Aside0.mk hyes
        have HF2 : Aside0 (find24 at_ T 0 = find24 at_ x.f4[j] (o + 1 + (preL24 (x.f4.take j)).length)) := ⟨by rw [HF.out, find24_eq, findL24_some hj hno hyes]⟩
        clear hno hyes hi HNO HYES
        have hj0 : (0 : Int) ≤ (j : Int) := by omega
        have hj1 : ¬ ((j : Int) < 0) := by omega
        have hjc : (j : Int) ≤ (c1 : Int) := by have := HCC.out; omega
        have hjl : (j : Int) < (x.f4.length : Int) := by omega
        have hk1 : w1.cell? ⟨w.heap.size, 4, none⟩ = some (.slice A1 x.f4.length c1) := (blk_cell HBN1.out 4).trans rfl
        obtain ⟨ad, A4, c4, rfl, e0, e1, e2, e3, e4, el, eC⟩ := elem24 HC.out HB1.out j hj
        clear e0 e1 e2 e3 e4 el eC
        go_wp2_with fail
        clear hk1
        go_loopw [30, 7] (fun p q wr => ∃ m : Nat, p = .int .i64 (m : Int) ∧ q = .int .i64 ((o + 1 + (preL24 (x.f4.take m)).length : Nat) : Int) ∧ m ≤ j ∧ Aside0 (wr.heap[w.heap.size]? = some (.cells #[.int .i64 x.f0, .string x.f1, .int .i64 x.f2, .int .i64 x.f3, .slice (some ad) x.f4.length c1] 24 (0, 0))) ∧ Aside0 (wr.cell? ⟨w.heap.size + 1, 0, none⟩ = some (.int .i64 at_)) ∧ Aside0 (Below w.heap.size w wr))
          (fun p q wr => j - (intOf p).toNat)
        case atStart => exact ⟨0, rfl, by rw [wrap64_small24 (by have := HO.out; have := HN.out; have := HP.out; omega)]; simp [preL24], Nat.zero_le _, HBN1, HAT1, HB1⟩
        case round =>
          clear HBN1 HAT1 HB1 HBN HAT HB
          obtain ⟨m, rfl, rfl, hmj, HBN, HAT, HB⟩ := hrel
          by_cases hlt : m < j
          · have hm1 : (m : Int) < (j : Int) := by omega
            have hm0 : (0 : Int) ≤ (m : Int) := by omega
            have hmx : m < x.f4.length := by omega
            obtain ⟨ad2, A4, c4, he, e0, e1, e2, e3, e4, el, eC⟩ := elem24 HC.out HB.out m hmx
            cases he
            have HE := Aside0.mk eC
            have HEL := Aside0.mk el
            have HLE : Aside0 (o + 1 + (preL24 (x.f4.take m)).length + (pre24 x.f4[m]).length ≤ (pre24 T).length) := ⟨by
              have h2 := congrArg List.length (preL24_take x.f4 m hmx)
              have h3 : preL24 x.f4 = preL24 (x.f4.take (m + 1)) ++ preL24 (x.f4.drop (m + 1)) := by rw [← preL24_append, List.take_append_drop]
              have h4 := congrArg List.length h3
              simp only [List.length_append] at h2 h4
              have := HO.out; have := HP.out
              omega⟩
            clear eC el
            go_wp2_with fail
            have hB2 := HB.out.alloc HB.out.size (.cells #[.int .i64 x.f4[m].f0, .string x.f4[m].f1, .int .i64 x.f4[m].f2, .int .i64 x.f4[m].f3, .slice A4 x.f4[m].f4.length c4] 24)
            have hX := Count_calls x.f4[m] A4 c4 (wr.alloc (.cells #[.int .i64 x.f4[m].f0, .string x.f4[m].f1, .int .i64 x.f4[m].f2, .int .i64 x.f4[m].f3, .slice A4 x.f4[m].f4.length c4] 24)) (Kd.C_below HE.out hB2) HEL.out (by have := HLE.out; have := HN.out; omega)
            simp only [val24] at hX
            refine hX.mono ?_
            clear hX
            rintro e w3 ⟨rfl, hb⟩
            have HB3 := Aside0.mk (hB2.trans (hb.mono hB2.size))
            have HBN3 := Aside0.mk (blk_below (blk_alloc HBN.out _) hb)
            have HAT3 := Aside0.mk ((hb.cell (World.block_lt_of_cell? _ _ (cell_alloc_c _ HAT.out))).trans (cell_alloc_c _ HAT.out))
            clear hb hB2
            go_wp2
            go_roundw
            case rel =>
              refine ⟨m + 1, by rw [wrap64_small24 (by have := HLE.out; have := HN.out; have := HO.out; have := len_preL24 x.f4; have := HP.out; omega)]; rfl, ?_, hlt, HBN3, HAT3, HB3⟩
              have h2 := congrArg List.length (preL24_take x.f4 m hmx)
              simp only [List.length_append] at h2
              have hw : wrap64 (((o + 1 + (preL24 (x.f4.take m)).length : Nat) : Int) + ((pre24 x.f4[m]).length : Int)) = ((o + 1 + (preL24 (x.f4.take (m + 1))).length : Nat) : Int) := by
                have := HLE.out; have := HN.out
                unfold wrap64; omega
              rw [← hw]
              refine congrArg (fun z => Value.int .i64 (wrap64 z)) ?_
              omega
            case measure => rw [wrap64_small24 (by have := HLE.out; have := HN.out; have := HO.out; have := len_preL24 x.f4; have := HP.out; omega)]; show j - (((m + 1 : Nat) : Int)).toNat < j - (m : Int).toNat; omega
          · have hme : m = j := by omega
            subst hme
            have hlt' : ¬ ((m : Int) < (m : Int)) := by omega
            have hk1 : wr.cell? ⟨w.heap.size, 4, none⟩ = some (.slice (some ad) x.f4.length c1) := (blk_cell HBN.out 4).trans rfl
            have hf0 := blk_frozen HBN.out 0
            have hf1 := blk_frozen HBN.out 1
            have hf2 := blk_frozen HBN.out 2
            have hf3 := blk_frozen HBN.out 3
            have hf4 := blk_frozen HBN.out 4
            have hq0 : wr.cell? ⟨w.heap.size, 0, none⟩ = some (.int .i64 x.f0) := (blk_cell HBN.out 0).trans rfl
            have hq1 : wr.cell? ⟨w.heap.size, 1, none⟩ = some (.string x.f1) := (blk_cell HBN.out 1).trans rfl
            have hq2 : wr.cell? ⟨w.heap.size, 2, none⟩ = some (.int .i64 x.f2) := (blk_cell HBN.out 2).trans rfl
            have hq3 : wr.cell? ⟨w.heap.size, 3, none⟩ = some (.int .i64 x.f3) := (blk_cell HBN.out 3).trans rfl
            obtain ⟨ad2, A4, c4, he, e0, e1, e2, e3, e4, el, eC⟩ := elem24 HC.out HB.out m hj
            cases he
            have HE := Aside0.mk eC
            have HEL := Aside0.mk el
            clear eC el
            go_wp2_with fail
            have hpj : (preL24 (x.f4.take (m + 1))).length ≤ (preL24 x.f4).length := by
              have h3 : preL24 x.f4 = preL24 (x.f4.take (m + 1)) ++ preL24 (x.f4.drop (m + 1)) := by rw [← preL24_append, List.take_append_drop]
              rw [h3, List.length_append]; omega
            have hpk := congrArg List.length (preL24_take x.f4 m hj)
            rw [List.length_append] at hpk
            have hpos := len_pre24_pos x.f4[m]
            refine ⟨⟨x.f4[m], o + 1 + (preL24 (x.f4.take m)).length, A4, c4, rfl, ⟨?_⟩, ⟨?_⟩, HE, HEL, HF2, ⟨?_⟩, ⟨?_⟩⟩, ?_⟩
            · refine blk_put (cs := #[.int .i64 x.f4[m].f0, .string x.f4[m].f1, .int .i64 x.f4[m].f2, .int .i64 x.f4[m].f3, .slice (some ad) x.f4.length c1]) ?_ 4 _ rfl
              refine blk_put (cs := #[.int .i64 x.f4[m].f0, .string x.f4[m].f1, .int .i64 x.f4[m].f2, .int .i64 x.f3, .slice (some ad) x.f4.length c1]) ?_ 3 _ rfl
              refine blk_put (cs := #[.int .i64 x.f4[m].f0, .string x.f4[m].f1, .int .i64 x.f2, .int .i64 x.f3, .slice (some ad) x.f4.length c1]) ?_ 2 _ rfl
              refine blk_put (cs := #[.int .i64 x.f4[m].f0, .string x.f1, .int .i64 x.f2, .int .i64 x.f3, .slice (some ad) x.f4.length c1]) ?_ 1 _ rfl
              refine blk_put (cs := #[.int .i64 x.f0, .string x.f1, .int .i64 x.f2, .int .i64 x.f3, .slice (some ad) x.f4.length c1]) ?_ 0 _ rfl
              exact HBN.out
            · iterate 5 (refine (World.cell?_setCell_far _ _ _ _ (show w.heap.size ≠ w.heap.size + 1 by omega)).trans ?_)
              exact HAT.out
            · have := HO.out; have := HP.out; omega
            · exact ((((HB.out.setCell (p := ⟨w.heap.size, 0, none⟩) (Nat.le_refl _) _).setCell (p := ⟨w.heap.size, 1, none⟩) (Nat.le_refl _) _).setCell (p := ⟨w.heap.size, 2, none⟩) (Nat.le_refl _) _).setCell (p := ⟨w.heap.size, 3, none⟩) (Nat.le_refl _) _).setCell (p := ⟨w.heap.size, 4, none⟩) (Nat.le_refl _) _
            · show (pre24 T).length - (((o + 1 + (preL24 (x.f4.take m)).length : Nat) : Int)).toNat < (pre24 T).length - ((o : Int)).toNat
              have := HO.out; have := HP.out; omega

def tree_Find.f (a0_0 : Int) (a0_1 : ByteArray) (a0_2 : Int) (a0_3 : Int) (l0_4 : List S24) (a1 : Int) : Option (Int × Bool) :=
  if (pre24 ⟨a0_0, a0_1, a0_2, a0_3, l0_4⟩).length < 4611686018427387904 then some ((if inside24 a1 ⟨a0_0, a0_1, a0_2, a0_3, l0_4⟩ then (find24 a1 ⟨a0_0, a0_1, a0_2, a0_3, l0_4⟩ 0 : Int) else 0), inside24 a1 ⟨a0_0, a0_1, a0_2, a0_3, l0_4⟩) else none

theorem tree_Find.calls (a0_0 : Int) (a0_1 : ByteArray) (a0_2 : Int) (a0_3 : Int) (A0_4 : Option Addr) (c0_4 : Nat) (l0_4 : List (S24)) (a1 : Int) (r1 : Int) (r2 : Bool) (w : World) (hr0_4 : Kd.C k24 w A0_4 l0_4.length l0_4) (hc0_4 : l0_4.length ≤ c0_4) (h : tree_Find.f a0_0 a0_1 a0_2 a0_3 l0_4 a1 = some (r1, r2)) :
    Calls Try.prog 30 #[.agg #[.int .i64 a0_0, .string a0_1, .int .i64 a0_2, .int .i64 a0_3, .slice A0_4 l0_4.length c0_4], .int .i64 a1] w fun e w' => e = .returned (.tuple #[.int .i64 r1, .bool r2]) ∧ Below w.heap.size w w' := by
  unfold tree_Find.f at h
  split at h
  case isFalse => simp at h
  rename_i hn
  have h' := Option.some.inj h
  obtain ⟨rfl, rfl⟩ := Prod.mk.inj h'
  exact Find_calls ⟨a0_0, a0_1, a0_2, a0_3, l0_4⟩ hn A0_4 c0_4 a1 w hr0_4 hc0_4
end Go.Proofs.Ytbheobngeocdfaa.PAll
