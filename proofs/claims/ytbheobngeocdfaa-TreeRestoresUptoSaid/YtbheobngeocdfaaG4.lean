/- shaped: all nodes have their shapes. The law's example: a tree of four nodes. -/
import Derived.Test.YtbheobngeocdfaaG3
import Derived.Test.YtbheobngeocdfaaG1
namespace Go.Proofs.Ytbheobngeocdfaa.PAll
open Go.RowKit Go.Shelf Go.Proofs.YtbheobngeocdfaaW.PrintWords
set_option linter.unusedVariables false
set_option linter.unusedSimpArgs false
attribute [local go_sem] Oper.semAt_some

def room24 (x : S24) : Prop := (pre24 x).length < 4611686018427387904 ∧ ∀ y ∈ pre24 x, y.f1.size < 4611686018427387904
theorem mem_preL24 {xs : List S24} {k y : S24} (hk : k ∈ xs) (hy : y ∈ pre24 k) : y ∈ preL24 xs := by
  induction xs with
  | nil => cases hk
  | cons x xs ih =>
    simp only [preL24, List.mem_append]
    rcases List.mem_cons.1 hk with rfl | h
    · exact .inl hy
    · exact .inr (ih h)
theorem room24_kid (x : S24) (h : room24 x) : ∀ k ∈ x.f4, room24 k := by
  intro k hk
  obtain ⟨j, hj, rfl⟩ := List.getElem_of_mem hk
  refine ⟨?_, fun y hy => h.2 y ?_⟩
  · have := pre_mem24 hj
    have h1 := h.1
    rw [pre24_eq] at h1
    simp only [List.length_cons] at h1
    omega
  · rw [pre24_eq]; exact List.mem_cons_of_mem _ (mem_preL24 hk hy)
theorem room24_self {x : S24} (h : room24 x) : x.f4.length < 4611686018427387904 ∧ x.f1.size < 4611686018427387904 := by
  refine ⟨?_, h.2 x (by rw [pre24_eq]; exact List.mem_cons_self ..)⟩
  have h1 := h.1
  have := len_preL24 x.f4
  rw [pre24_eq] at h1
  simp only [List.length_cons] at h1
  omega
/-- one node has its shape -/
def nodeB (x : S24) : Bool := match shapeOf x.f0 with
  | none => false
  | some s => if fitsB s x then (if x.f0 = 4 then ((rd_T24 x.f4 0).f1.toList == wInt.toList || (rd_T24 x.f4 0).f1.toList == wBool.toList) else true) else false

theorem fits_field {x : S24} (h : fitsB ⟨.name, [.one [9]], none, 0⟩ x = true) : x.f4.length = 1 := by
  by_cases hl : x.f4.length = 1
  · exact hl
  · simp [fitsB, hl] at h
theorem wInt_toList : wInt.toList = [105, 110, 116] := by kernel_rfl
theorem wBool_toList : wBool.toList = [98, 111, 111, 108] := by kernel_rfl
theorem shapeOf4 : shapeOf 4 = some ⟨.name, [.one [9]], none, 0⟩ := by kernel_rfl

set_option maxRecDepth 100000 in
set_option maxHeartbeats 4000000 in
theorem shaped_in (T : S24) (A : Option Addr) (c : Nat) (w : World) (hC : k24.C w A T.f4.length T.f4) (hc : T.f4.length ≤ c)
    (hR : room24 T) :
    CallsIn Fence.wide 3 Try.prog 42 #[val24 T A c] w fun e w' => e = .returned (.bool ((pre24 T).all nodeB)) ∧ Below w.heap.size w w' := by
  have HR := Aside0.mk hR
  clear hR
  have hu24 := Try.underlying24
  refine callsIn_of_wp_marks Try.func42 rfl trivial ?_ rfl
  simp only [val24, Try.ntmps42, List.size_toArray, List.length_cons, List.length_nil, Nat.reduceAdd, Nat.reduceSub, Array.replicate_succ, Array.replicate_zero, List.push_toArray, List.append_toArray, List.nil_append, List.cons_append]
  have hno := fun w => nodes_in Fence.wide 2 trivial rfl T A c w
  simp only [val24] at hno
  have h48 : Fence.wide.fn 48 := trivial
  have h50 : Fence.wide.fn 50 := trivial
  have h56 : Fence.wide.fn 56 := trivial
  have hro : Fence.wide.round = none := rfl
  have hdd : ∀ k : Nat, (Fence.wide.depth.isSome = true → 1 ≤ k) := fun k h => by cases h
  have hsh := fun w => (callsIn_wide (n := 2)).2 (shapes_calls w)
  gi_wp2_with fail
  (try refine ⟨hdd _, ?_⟩)
  gi_at_call 48
  refine CallsIn.mono (hsh _) ?_
  clear hsh
  rintro e w1 ⟨mb, rfl, hs1, hb1⟩
  obtain ⟨W1, hW1⟩ : ∃ W1, (w1.alloc (.cells #[.map (some mb)] 56)) = W1 := ⟨_, rfl⟩
  have hbn1 := blk_alloc (blk_below (blk_new w (.cells #[.int .i64 T.f0, .string T.f1, .int .i64 T.f2, .int .i64 T.f3, .slice A T.f4.length c] 24)) hb1) (.cells #[.map (some mb)] 56)
  have hbB1 : Below w.heap.size w W1 := by
    rw [← hW1]
    exact (((Below.refl _ w).alloc (Nat.le_refl _) _).trans (hb1.mono (by simp))).alloc (by have := hb1.size; simp at this; omega) _
  have hS1 : IsShapes W1 mb := by
    rw [← hW1]
    obtain ⟨es, clock, h1, h2, h3⟩ := hs1
    have hk := KeepC.alloc w1 (.cells #[.map (some mb)] 56)
    exact ⟨es, clock, (Below.heap_alloc _ _ _ (Array.getElem?_eq_some_iff.1 h1).1).trans h1, fun e he => by obtain ⟨x, hx, hk1, hsx⟩ := h2 e he; exact ⟨x, hx, hk1, hsx.keep hk⟩, h3⟩
  have hm1 : W1.cell? ⟨w1.heap.size, 0, none⟩ = some (.map (some mb)) := by rw [← hW1]; exact (cell_new_c w1 _ 56).1
  have hsz1 : w.heap.size + 1 ≤ w1.heap.size := by have := hb1.size; simp at this; omega
  have hsz2 : W1.heap.size = w1.heap.size + 1 := by rw [← hW1]; simp
  rw [hW1] at hbn1
  have hq : ∀ i v, #[Value.int .i64 T.f0, .string T.f1, .int .i64 T.f2, .int .i64 T.f3, .slice A T.f4.length c][i]? = some v → (W1.alloc (.cells #[.bool true] 4)).cell? ⟨w.heap.size, i, none⟩ = some v := fun i v h => cell_alloc_c _ ((blk_cell hbn1 i).trans h)
  have hq0 := hq 0 _ rfl
  have hq1 := hq 1 _ rfl
  have hq2 := hq 2 _ rfl
  have hq3 := hq 3 _ rfl
  have hq4 := hq 4 _ rfl
  clear hq hb1 hs1
  have HBN := Aside0.mk hbn1
  have HBB := Aside0.mk hbB1
  have HS := Aside0.mk hS1
  have HM := Aside0.mk hm1
  clear hbn1 hbB1 hS1 hm1
  gi_wp2_with fail
  gi_at_call 50
  refine (hno _).mono ?_
  clear hno
  rintro e w' ⟨rfl, rfl⟩
  clear hq0 hq1 hq2 hq3 hq4
  obtain ⟨W3, hW3⟩ : ∃ W3, ((W1.alloc (.cells #[.bool true] 4)).alloc (.cells #[.int .i64 T.f0, .string T.f1, .int .i64 T.f2, .int .i64 T.f3, .slice A T.f4.length c] 24)) = W3 := ⟨_, rfl⟩
  have hsz3 : W3.heap.size = w1.heap.size + 3 := by rw [← hW3]; simp [hsz2]
  have hok3 : W3.cell? ⟨w1.heap.size + 1, 0, none⟩ = some (.bool true) ∧ W3.frozen? ⟨w1.heap.size + 1, 0, none⟩ = false := by
    have h := cell_new_c W1 (.bool true) 4
    rw [hsz2] at h
    rw [← hW3]
    exact ⟨cell_alloc_c _ h.1, frozen_alloc_c _ h.1 h.2⟩
  have hb3 : Below W1.heap.size W1 W3 := by
    rw [← hW3]
    exact ((Below.refl _ W1).alloc (Nat.le_refl _) _).alloc (by simp) _
  have hB3 : Below w.heap.size w W3 := HBB.out.trans (hb3.mono HBB.out.size)
  have hbn3 : W3.heap[w1.heap.size + 2]? = some (.cells #[.int .i64 T.f0, .string T.f1, .int .i64 T.f2, .int .i64 T.f3, .slice A T.f4.length c] 24) := by
    rw [← hW3]
    have h := World.alloc_heap_new (W1.alloc (.cells #[.bool true] 4)) (.cells #[.int .i64 T.f0, .string T.f1, .int .i64 T.f2, .int .i64 T.f3, .slice A T.f4.length c] 24)
    rwa [World.size_alloc, hsz2] at h
  have hWn : (W1.alloc (.cells #[.bool true] 4)).heap.size = w1.heap.size + 2 := by simp [hsz2]
  rw [hW3]
  try rw [hWn]
  clear hW3 hWn
  gi_wp2_with fail
  refine wpIn_rangeFunc_ownH hro (by omega) (gf := 69) (lb := #[.pointer (some ⟨w1.heap.size + 2, 0, none⟩)]) rfl trivial (enters_of Try.func69 (by kernel_rfl) rfl)
    (nodesP_stops room24 room24_kid Fence.wide rfl 2 trivial trivial rfl w W3 hB3 (w1.heap.size + 2) T HR.out A c hC hc HR.out.1 hbn3) (fun h k => h.trans k) (fun W l o o' hl h ho hw => KpB.turn (w := W3) hB3.size W l o o' hl h ho hw) (Below.refl _ _) (fun _ => rfl)
    (fun pre W => ((W.cell? ⟨w1.heap.size + 1, 0, none⟩ = some (.bool ((pre.map (·.1.1)).all nodeB)) ∧ W.frozen? ⟨w1.heap.size + 1, 0, none⟩ = false) ∧ Below W1.heap.size W1 W))
    (fun _ _ _ => False)
    (OwnFrom.and (Own.from (fun s A B row hs hg hr => ⟨Go.cell_kept hs.1 hg hr, (Go.frozen_kept hs.1 hg hr).trans hs.2⟩) _) (ownFrom_below (Nat.le_refl _) (by omega)))
    (fun _ _ _ _ _ hs _ _ => hs)
    ⟨⟨by simpa using hok3.1, hok3.2⟩, hb3⟩
    (fun x a' W => ∃ b, a' = { tmps := #[val24 T A c, .pointer (some ⟨w.heap.size, 0, none⟩), .bool false, .pointer (some ⟨w1.heap.size, 0, none⟩), .pointer (some ⟨w1.heap.size + 1, 0, none⟩), .pointer (some ⟨b, 0, none⟩), undef, undef, .map (some mb), val24 T A c, .func (.func 69) #[] #[.pointer (some ⟨w1.heap.size + 2, 0, none⟩)], val24 x.1.1 x.1.2.1 x.1.2.2, undef, undef, undef, undef, undef, undef, undef, undef, undef, undef, undef, undef, undef, undef, undef, undef, undef, undef, undef, undef, undef, undef, undef, undef, undef, undef, undef, undef, undef, undef, undef, undef, undef, undef, undef, undef, undef], defers := [] } ∧ w1.heap.size + 1 < b ∧ W.heap[b]? = some (.cells #[.int .i64 x.1.1.f0, .string x.1.1.f1, .int .i64 x.1.1.f2, .int .i64 x.1.1.f3, .slice x.1.2.1 x.1.1.f4.length x.1.2.2] 24))
    ?hAx ?assign ?body ?done ?stop
  case hAx =>
    rintro x a' _ W W' row ⟨b, e, hl, hb⟩ hg hr
    exact ⟨b, e, hl, (hg.block b (Array.getElem?_eq_some_iff.1 hb).1 (fun e' => by obtain ⟨_, o, ho, hc⟩ := hr b e'.symm; rw [hb] at ho; cases ho; cases hc)).trans hb⟩
  case assign =>
    rintro l pre x W K ⟨⟨hc, hf⟩, hB⟩ hK
    simp only [encP, val24]
    have hlt : w1.heap.size + 1 < W.heap.size := World.block_lt_of_cell? W _ hc
    gi_wp2_with fail
    refine hK _ _ ((KeepsOthers.alloc W _).from _) (KpB.of_below ((Below.refl _ W).alloc (Nat.le_refl _) _) (by have := hB3.size; omega)) ⟨⟨cell_alloc_c _ hc, frozen_alloc_c _ hc hf⟩, hB.alloc hB.size _⟩ ⟨W.heap.size, rfl, hlt, World.alloc_heap_new _ _⟩
  case body =>
    rintro l pre ⟨⟨x, A', c'⟩, hRx, hCx, hcx⟩ a' W hlw hrec ⟨⟨hcO, hfO⟩, hB⟩ ⟨b, rfl, hbl, hbx⟩ hlen
    clear hrec hlen
    dsimp only at hRx hCx hcx hbx
    have hBw : Below w.heap.size w W := HBB.out.trans (hB.mono HBB.out.size)
    have hsW : w1.heap.size + 1 < W.heap.size := World.block_lt_of_cell? W _ hcO
    have hSW : IsShapes W mb := by
      obtain ⟨es, clock, h1, h2, h3⟩ := HS.out
      have hk := KeepC.of_below hB
      exact ⟨es, clock, (hB.block _ (Array.getElem?_eq_some_iff.1 h1).1).trans h1, fun e he => by obtain ⟨y, hy, hk1, hsx⟩ := h2 e he; exact ⟨y, hy, hk1, hsx.keep hk⟩, h3⟩
    have hmW : W.cell? ⟨w1.heap.size, 0, none⟩ = some (.map (some mb)) := (hB.cell (World.block_lt_of_cell? W1 _ HM.out)).trans HM.out
    obtain ⟨β, hβ⟩ : ∃ β, β = (pre.map (·.1.1)).all nodeB := ⟨_, rfl⟩
    rw [← hβ] at hcO
    have hfin : ((pre ++ [(⟨(x, A', c'), hRx, hCx, hcx⟩ : NodP room24 w)]).map (·.1.1)).all nodeB = (β && nodeB x) := by rw [hβ]; simp
    have fin : ∀ (Wm W' : World) (v : Bool), Below W.heap.size W Wm → (W' = Wm.setCell ⟨w1.heap.size + 1, 0, none⟩ (.bool v) ∨ (∃ u, W' = (Wm.setCell ⟨w1.heap.size + 1, 0, none⟩ (.bool u)).setCell ⟨w1.heap.size + 1, 0, none⟩ (.bool v)) ∨ ∃ o, W' = (Wm.setCell ⟨w1.heap.size + 1, 0, none⟩ (.bool v)).alloc o) → v = (β && nodeB x) →
        KeepsFrom W3.heap.size W W' ∧ KpB w.heap.size W3.heap.size W W' ∧ ((W'.cell? ⟨w1.heap.size + 1, 0, none⟩ = some (.bool (((pre ++ [(⟨(x, A', c'), hRx, hCx, hcx⟩ : NodP room24 w)]).map (·.1.1)).all nodeB)) ∧ W'.frozen? ⟨w1.heap.size + 1, 0, none⟩ = false) ∧ Below W1.heap.size W1 W') := by
      intro Wm W' v hWm hW' hv
      have hcm : Wm.cell? ⟨w1.heap.size + 1, 0, none⟩ = some (.bool β) := (hWm.cell hsW).trans hcO
      have hfm : Wm.frozen? ⟨w1.heap.size + 1, 0, none⟩ = false := (hWm.frozen hsW).trans hfO
      have hsWm : w1.heap.size + 1 < Wm.heap.size := World.block_lt_of_cell? Wm _ hcm
      have hfar : ∀ k, k < Wm.heap.size → k ≠ w1.heap.size + 1 → W'.heap[k]? = Wm.heap[k]? := by
        intro k hlt hk
        rcases hW' with rfl | ⟨u, rfl⟩ | ⟨o, rfl⟩
        · exact Below.heap_setCell _ _ _ _ hk
        · exact (Below.heap_setCell _ _ _ _ hk).trans (Below.heap_setCell _ _ _ _ hk)
        · exact (Below.heap_alloc _ _ _ (by simpa using hlt)).trans (Below.heap_setCell _ _ _ _ hk)
      have hsz : Wm.heap.size ≤ W'.heap.size := by rcases hW' with rfl | ⟨u, rfl⟩ | ⟨o, rfl⟩ <;> simp
      have hbl1 : ∀ {n₀ : Nat} {W₀ : World}, n₀ ≤ w1.heap.size + 1 → Below n₀ W₀ Wm → Below n₀ W₀ W' := by
        intro n₀ W₀ hn h
        rcases hW' with rfl | ⟨u, rfl⟩ | ⟨o, rfl⟩
        · exact h.setCell (p := ⟨w1.heap.size + 1, 0, none⟩) hn _
        · exact (h.setCell (p := ⟨w1.heap.size + 1, 0, none⟩) hn _).setCell (p := ⟨w1.heap.size + 1, 0, none⟩) hn _
        · exact (h.setCell (p := ⟨w1.heap.size + 1, 0, none⟩) hn _).alloc (by simp; omega) _
      have hc' : W'.cell? ⟨w1.heap.size + 1, 0, none⟩ = some (.bool v) ∧ W'.frozen? ⟨w1.heap.size + 1, 0, none⟩ = false := by
        rcases hW' with rfl | ⟨u, rfl⟩ | ⟨o, rfl⟩
        · exact ⟨World.cell?_setCell_same' _ _ _ (by rw [hcm]; rfl), by rw [World.frozen?_setCell]; exact hfm⟩
        · exact ⟨World.cell?_setCell_same' _ _ _ (by rw [World.cell?_setCell_same' _ _ _ (by rw [hcm]; rfl)]; rfl), by rw [World.frozen?_setCell, World.frozen?_setCell]; exact hfm⟩
        · have h := World.cell?_setCell_same' Wm ⟨w1.heap.size + 1, 0, none⟩ (.bool v) (by rw [hcm]; rfl)
          exact ⟨cell_alloc_c _ h, frozen_alloc_c _ h (by rw [World.frozen?_setCell]; exact hfm)⟩
      refine ⟨⟨Nat.le_trans hWm.size hsz, fun k o hk ho _ => ?_⟩, ⟨hbl1 (by omega) (hWm.mono (by have := hBw.size; omega)), fun k cs t fr hk ho => ?_⟩, ⟨by rw [hfin, ← hv]; exact hc'.1, hc'.2⟩, hbl1 (by omega) (hB.trans (hWm.mono hB.size))⟩
      · rw [hfar k (Nat.lt_of_lt_of_le (Array.getElem?_eq_some_iff.1 ho).1 hWm.size) (by omega)]; exact (hWm.block k (Array.getElem?_eq_some_iff.1 ho).1).trans ho
      · rw [hfar k (Nat.lt_of_lt_of_le (Array.getElem?_eq_some_iff.1 ho).1 hWm.size) (by omega)]; exact (hWm.block k (Array.getElem?_eq_some_iff.1 ho).1).trans ho
    have HFin := Aside0.mk fin
    clear fin hfin hβ
    have hx0 : W.cell? ⟨b, 0, none⟩ = some (.int .i64 x.f0) := (blk_cell hbx 0).trans rfl
    have hl := shapes_lookup W mb hSW x.f0
    clear hSW
    rcases hl with ⟨s, v, h1, hsv, h5⟩ | ⟨h1, h5⟩
    · have hl := h5 true
      simp only [if_true] at hl
      clear h5
      have HSV := Aside0.mk hsv
      obtain ⟨tv, kv, lv, rfl, ht1, ht2, ht3⟩ := hsv
      obtain ⟨id1, caps1, rfl, _⟩ := ht1
      obtain ⟨A2, n2, c2, rfl⟩ := isTests_form ht2
      have hlv : lv = .nilFunc ∨ ∃ fn c, lv = .func fn #[] c := by
        cases hsl : s.list with
        | none => rw [hsl] at ht3; exact .inl ht3
        | some t => rw [hsl] at ht3; obtain ⟨fn, c, e⟩ := isTest_form ht3; exact .inr ⟨fn, c, e⟩
      clear ht2 ht3
      obtain ⟨β', hβ'⟩ : ∃ β', β' = nodeB x := ⟨_, rfl⟩
      rw [← hβ'] at HFin
      have hnb : nodeB x = if fitsB s x then (if x.f0 = 4 then ((rd_T24 x.f4 0).f1.toList == wInt.toList || (rd_T24 x.f4 0).f1.toList == wBool.toList) else true) else false := by unfold nodeB; rw [h1]
      rw [hnb] at hβ'
      clear hnb
      have HF0 := Aside0.mk (fun w' (hk : Below W.heap.size W w') => CallsIn.inRound l ((callsIn_wide (n := 0)).2 (fits_calls s x _ A' c' w' (HSV.out.keep (KeepC.of_below hk)) (Kd.C_below hCx (hBw.trans (hk.mono hBw.size))) hcx (room24_self hRx).1 (room24_self hRx).2)))
      have HC := Aside0.mk hCx
      have HBW := Aside0.mk hBw
      have HBX := Aside0.mk hbx
      have HB' := Aside0.mk hβ'
      have H1 := Aside0.mk h1
      clear hBw hbx hβ' h1 HSV
      simp only [val24] at HF0
      rcases hlv with rfl | ⟨fn, cf, rfl⟩
      all_goals (
        cases β with
        | false =>
          have hfx : ∀ o v, ((W.setCell ⟨w1.heap.size + 1, 0, none⟩ v).alloc o).cell? ⟨b, 0, none⟩ = some (.int .i64 x.f0) := fun o v => cell_alloc_c _ ((World.cell?_setCell_far _ _ _ _ (show w1.heap.size + 1 ≠ b by omega)).trans hx0)
          have hfk : ∀ o v, ((W.setCell ⟨w1.heap.size + 1, 0, none⟩ v).alloc o).cell? ⟨w1.heap.size + 1, 0, none⟩ = some v := fun o v => cell_alloc_c _ (World.cell?_setCell_same' _ _ _ (by rw [hcO]; rfl))
          by_cases h4 : x.f0 = 4
          · have h4b : (x.f0 == 4) = true := by simp [h4]
            clear h4
            gi_wp2_with fail
            exact HFin.out W _ false (Below.refl _ _) (.inr (.inr ⟨_, rfl⟩)) (by simp)
          · have h4b : (x.f0 == 4) = false := by simp [h4]
            clear h4
            gi_wp2_with fail
            exact HFin.out W _ false (Below.refl _ _) (.inr (.inr ⟨_, rfl⟩)) (by simp)
        | true =>
          have hfx : ∀ o i v, #[Value.int .i64 x.f0, .string x.f1, .int .i64 x.f2, .int .i64 x.f3, .slice A' x.f4.length c'][i]? = some v → (W.alloc o).cell? ⟨b, i, none⟩ = some v := fun o i v h => cell_alloc_c _ ((blk_cell HBX.out i).trans h)
          have hf0 : ∀ o, (W.alloc o).cell? ⟨b, 0, none⟩ = _ := fun o => hfx o 0 _ rfl
          have hf1 : ∀ o, (W.alloc o).cell? ⟨b, 1, none⟩ = _ := fun o => hfx o 1 _ rfl
          have hf2 : ∀ o, (W.alloc o).cell? ⟨b, 2, none⟩ = _ := fun o => hfx o 2 _ rfl
          have hf3 : ∀ o, (W.alloc o).cell? ⟨b, 3, none⟩ = _ := fun o => hfx o 3 _ rfl
          have hf4 : ∀ o, (W.alloc o).cell? ⟨b, 4, none⟩ = _ := fun o => hfx o 4 _ rfl
          clear hfx
          gi_wp2_with fail
          clear hf0 hf1 hf2 hf3 hf4
          gi_at_call 56
          refine CallsIn.mono (HF0.out _ ((Below.refl _ W).alloc (Nat.le_refl _) _)) ?_
          clear HF0
          rintro e w2 ⟨rfl, hb2⟩
          have hbW2 : Below W.heap.size W w2 := ((Below.refl _ W).alloc (Nat.le_refl _) _).trans (hb2.mono (by simp))
          have hcO2 : w2.cell? ⟨w1.heap.size + 1, 0, none⟩ = some (.bool true) := (hbW2.cell hsW).trans hcO
          have hfO2 : w2.frozen? ⟨w1.heap.size + 1, 0, none⟩ = false := (hbW2.frozen hsW).trans hfO
          have hx2 : ∀ v i u, #[Value.int .i64 x.f0, .string x.f1, .int .i64 x.f2, .int .i64 x.f3, .slice A' x.f4.length c'][i]? = some u → (w2.setCell ⟨w1.heap.size + 1, 0, none⟩ v).cell? ⟨b, i, none⟩ = some u := fun v i u h => (World.cell?_setCell_far _ _ _ _ (show w1.heap.size + 1 ≠ b by omega)).trans ((blk_cell (blk_below HBX.out hbW2) i).trans h)
          have hg0 : ∀ v, (w2.setCell ⟨w1.heap.size + 1, 0, none⟩ v).cell? ⟨b, 0, none⟩ = _ := fun v => hx2 v 0 _ rfl
          have hg4 : ∀ v, (w2.setCell ⟨w1.heap.size + 1, 0, none⟩ v).cell? ⟨b, 4, none⟩ = _ := fun v => hx2 v 4 _ rfl
          have hgk : ∀ v, (w2.setCell ⟨w1.heap.size + 1, 0, none⟩ v).cell? ⟨w1.heap.size + 1, 0, none⟩ = some v := fun v => World.cell?_setCell_same' _ _ _ (by rw [hcO2]; rfl)
          obtain ⟨φ, hφ⟩ : ∃ φ, φ = fitsB s x := ⟨_, rfl⟩
          rw [← hφ]
          have HP := Aside0.mk hφ
          have HW2 := Aside0.mk hbW2
          clear hφ hx2 hb2 hbW2 hcO hfO hx0
          cases φ with
          | false =>
            by_cases h4 : x.f0 = 4
            · have h4b : (x.f0 == 4) = true := by simp [h4]
              clear h4
              gi_wp2_with fail
              exact HFin.out w2 _ false HW2.out (.inl rfl) (by rw [HB'.out, ← HP.out]; rfl)
            · have h4b : (x.f0 == 4) = false := by simp [h4]
              clear h4
              gi_wp2_with fail
              exact HFin.out w2 _ false HW2.out (.inl rfl) (by rw [HB'.out, ← HP.out]; rfl)
          | true =>
            by_cases h4 : x.f0 = 4
            · have hs4 : x.f4.length = 1 := by
                have h6 := H1.out
                rw [h4, shapeOf4] at h6
                have h7 := HP.out
                rw [← Option.some.inj h6] at h7
                exact fits_field h7.symm
              have h4b : (x.f0 == 4) = true := by simp [h4]
              have hbt : Below w.heap.size w (w2.setCell ⟨w1.heap.size + 1, 0, none⟩ (.bool true)) := (HBW.out.trans (HW2.out.mono HBW.out.size)).setCell (p := ⟨w1.heap.size + 1, 0, none⟩) (by show w.heap.size ≤ w1.heap.size + 1; omega) _
              obtain ⟨ad, A4, c4, hA', e0, e1, e2, e3, e4, el, eC⟩ := elem24 HC.out hbt 0 (by omega)
              have hrd : x.f4[0] = rd_T24 x.f4 0 := by simp [rd_T24, List.getElem?_eq_getElem (show 0 < x.f4.length by omega)]
              rw [hrd] at e1
              clear e0 e2 e3 e4 el eC hbt
              subst hA'
              have HB2 : Aside0 (β' = ((rd_T24 x.f4 0).f1.toList == wInt.toList || (rd_T24 x.f4 0).f1.toList == wBool.toList)) := ⟨by rw [HB'.out, ← HP.out, if_pos rfl, if_pos h4]⟩
              generalize (rd_T24 x.f4 0).f1 = tx at e1 HB2
              have hlt : (0 : Int) < (x.f4.length : Int) := by omega
              have hlt2 : 0 < x.f4.length := by omega
              have e1' : (w2.setCell ⟨w1.heap.size + 1, 0, none⟩ (.bool true)).cell? ⟨ad.block, ad.off + 1, none⟩ = some (.string tx) := e1
              clear e1
              rw [wInt_toList, wBool_toList] at HB2
              clear h4 hs4 hrd
              gi_wp2_with fail
              all_goals (first | exact HFin.out w2 _ _ HW2.out (.inr (.inl ⟨_, rfl⟩)) (by rw [HB2.out]; rfl) | (rename_i hq; exact HFin.out w2 _ _ HW2.out (.inr (.inl ⟨_, rfl⟩)) (by rw [HB2.out, hq]; rfl)))
            · have h4b : (x.f0 == 4) = false := by simp [h4]
              have HB2 : Aside0 (β' = true) := ⟨by rw [HB'.out, ← HP.out, if_pos rfl, if_neg h4]⟩
              clear h4
              gi_wp2_with fail
              exact HFin.out w2 _ true HW2.out (.inl rfl) (by rw [HB2.out]; rfl))
    · have hl := h5 true
      simp only [if_true] at hl
      unfold zero55 at hl
      have hnb : nodeB x = false := by unfold nodeB; rw [h1]
      rw [hnb] at HFin
      clear h5 h1 hnb
      have hfx : ∀ o v, ((W.setCell ⟨w1.heap.size + 1, 0, none⟩ v).alloc o).cell? ⟨b, 0, none⟩ = some (.int .i64 x.f0) := fun o v => cell_alloc_c _ ((World.cell?_setCell_far _ _ _ _ (show w1.heap.size + 1 ≠ b by omega)).trans hx0)
      have hfk : ∀ o v, ((W.setCell ⟨w1.heap.size + 1, 0, none⟩ v).alloc o).cell? ⟨w1.heap.size + 1, 0, none⟩ = some v := fun o v => cell_alloc_c _ (World.cell?_setCell_same' _ _ _ (by rw [hcO]; rfl))
      cases β with
      | false =>
        by_cases h4 : x.f0 = 4
        · have h4b : (x.f0 == 4) = true := by simp [h4]
          clear h4
          gi_wp2_with fail
          exact HFin.out W _ false (Below.refl _ _) (.inr (.inr ⟨_, rfl⟩)) (by rfl)
        · have h4b : (x.f0 == 4) = false := by simp [h4]
          clear h4
          gi_wp2_with fail
          exact HFin.out W _ false (Below.refl _ _) (.inr (.inr ⟨_, rfl⟩)) (by rfl)
      | true =>
        by_cases h4 : x.f0 = 4
        · have h4b : (x.f0 == 4) = true := by simp [h4]
          clear h4
          gi_wp2_with fail
          exact HFin.out W _ false (Below.refl _ _) (.inr (.inr ⟨_, rfl⟩)) (by rfl)
        · have h4b : (x.f0 == 4) = false := by simp [h4]
          clear h4
          gi_wp2_with fail
          exact HFin.out W _ false (Below.refl _ _) (.inr (.inr ⟨_, rfl⟩)) (by rfl)
  case done =>
    rintro D ys W hD hys ⟨⟨hc, _⟩, hB⟩ hK
    gi_wp2_with fail
    refine ⟨by simp, .inl ⟨_, _, rfl, run_takeDeferred hK, ?_⟩⟩
    refine ⟨_, results_tmp rfl _ _ _, ?_, ?_⟩
    · first | rfl | (rw [hys]; rfl)
    exact (HBB.out.trans (hB.mono HBB.out.size)).trans (belowK_b (w := w) (Nat.le_refl _) W D _ _ (by omega) hK rfl rfl)
  case stop =>
    rintro D c pre W _ _ h _
    exact h.elim

def tree_shaped.f (a0_0 : Int) (a0_1 : ByteArray) (a0_2 : Int) (a0_3 : Int) (l0_4 : List S24) : Option Bool :=
  if (pre24 ⟨a0_0, a0_1, a0_2, a0_3, l0_4⟩).length < 4611686018427387904 ∧ ((pre24 ⟨a0_0, a0_1, a0_2, a0_3, l0_4⟩).all fun y => decide (y.f1.size < 4611686018427387904)) = true then some ((pre24 ⟨a0_0, a0_1, a0_2, a0_3, l0_4⟩).all nodeB) else none

theorem tree_shaped.calls (a0_0 : Int) (a0_1 : ByteArray) (a0_2 : Int) (a0_3 : Int) (A0_4 : Option Addr) (c0_4 : Nat) (l0_4 : List (S24)) (r : Bool) (w : World) (hr0_4 : Kd.C k24 w A0_4 l0_4.length l0_4) (hc0_4 : l0_4.length ≤ c0_4) (h : tree_shaped.f a0_0 a0_1 a0_2 a0_3 l0_4 = some r) :
    Calls Try.prog 42 #[.agg #[.int .i64 a0_0, .string a0_1, .int .i64 a0_2, .int .i64 a0_3, .slice A0_4 l0_4.length c0_4]] w fun e w' => e = .returned (.bool r) ∧ Below w.heap.size w w' := by
  unfold tree_shaped.f at h
  split at h
  case isFalse => simp at h
  rename_i hn
  obtain rfl := Option.some.inj h
  refine (callsIn_wide (n := 3)).1 ?_
  exact shaped_in ⟨a0_0, a0_1, a0_2, a0_3, l0_4⟩ A0_4 c0_4 w hr0_4 hc0_4 ⟨hn.1, fun y hy => by have := List.all_eq_true.1 hn.2 y hy; simpa using this⟩
end Go.Proofs.Ytbheobngeocdfaa.PAll
namespace Go.Proofs.Ytbheobngeocdfaa.PAll
open Go.RowKit Go.Proofs.YtbheobngeocdfaaW.PrintWords Go.Proofs.YtbheobngeocdfaaW.PrintLast Go.Proofs.YtbheobngeocdfaaW.PrintMore
set_option linter.unusedVariables false
set_option linter.unusedSimpArgs false

def exY : S24 := ⟨20, (⟨#[120]⟩ : ByteArray), 1, 2, []⟩
def exX : S24 := ⟨28, (⟨#[45]⟩ : ByteArray), 0, 2, [exY]⟩
def exN : S24 := ⟨24, (⟨#[49]⟩ : ByteArray), 5, 6, []⟩
def assessorlaw03_example.f : Option (Int × ByteArray × Int × Int × List S24) := some (29, (⟨#[43]⟩ : ByteArray), 0, 6, [exX, exN])

theorem R_blk {w : World} {base g : Nat} {ok : Nat → Prop} {cells : List Value} {xs : List S24} (hg : base ≤ g) (hok : ok g) (hh : w.heap[g]? = some (.cells cells.toArray 24 (0, 0)))
    (hr : Reps (k24.M w base (fun k => ok k ∧ some k ≠ some g)) 5 xs cells) (hm : xs.length ≤ maxLen) : Kd.R k24 24 w base ok (.slice (some ⟨g, 0, none⟩) xs.length xs.length) xs := by
  refine ⟨fun k hk => ?_, cells, ⟨hr.1, .inr ⟨g, xs.length, cells.toArray, rfl, hg, hh, Nat.le_refl _, hm, ?_, ?_⟩⟩, hr⟩
  · have : g = k := by simpa [Value.ownBlock] using hk
    subst this; exact hok
  · show cells.toArray.size = xs.length * 5
    simpa using hr.1
  · have h5 : cells.length = xs.length * 5 := hr.1
    show cells.take (xs.length * 5) = cells
    rw [List.take_of_length_le (by omega)]

set_option maxRecDepth 100000 in
set_option maxHeartbeats 4000000 in
theorem assessorlaw03_example.calls (r1 : Int) (r2 : ByteArray) (r3 r4 : Int) (r5 : List S24) (w : World) (h : assessorlaw03_example.f = some (r1, r2, r3, r4, r5)) :
    Calls Try.prog 41 #[] w fun e w' => ∃ v4_ : Value, e = .returned (.agg #[.int .i64 r1, .string r2, .int .i64 r3, .int .i64 r4, v4_]) ∧ Kd.R k24 24 w' w.heap.size (fun _ => True) v4_ r5 ∧ Below w.heap.size w w' := by
  unfold assessorlaw03_example.f at h
  have h' := Option.some.inj h
  simp only [Prod.mk.injEq] at h'
  obtain ⟨rfl, rfl, rfl, rfl, rfl⟩ := h'
  clear h
  have hu24 := Try.underlying24
  have hu22 := Try.underlying22
  go_enter Try.func41, Try.ntmps41
  go_wp2_with fail
  obtain ⟨W, hW⟩ : ∃ W, ((((w.alloc (.cells #[.int .i64 29, .string (⟨#[43]⟩ : ByteArray), .int .i64 0, .int .i64 6, .slice (some ⟨w.heap.size + 1 + 1 + 1, 0, none⟩) 2 2] 24)).alloc (.cells #[.int .i64 20, .string (⟨#[120]⟩ : ByteArray), .int .i64 1, .int .i64 2, .slice none 0 0] 24)).alloc
      (.cells #[.int .i64 28, .string (⟨#[45]⟩ : ByteArray), .int .i64 0, .int .i64 2, .slice (some ⟨w.heap.size + 1, 0, none⟩) 1 1] 24)).alloc
      (.cells #[.int .i64 28, .string (⟨#[45]⟩ : ByteArray), .int .i64 0, .int .i64 2, .slice (some ⟨w.heap.size + 1, 0, none⟩) 1 1, .int .i64 24, .string (⟨#[49]⟩ : ByteArray), .int .i64 5, .int .i64 6, .slice none 0 0] 24)) = W := ⟨_, rfl⟩
  rw [hW]
  have hb : Below w.heap.size w W := by rw [← hW]; exact ((((Below.refl _ w).alloc (Nat.le_refl _) _).alloc (by simp) _).alloc (by simp; omega) _).alloc (by simp; omega) _
  have h0 : W.heap[w.heap.size]? = some (.cells #[.int .i64 29, .string (⟨#[43]⟩ : ByteArray), .int .i64 0, .int .i64 6, .slice (some ⟨w.heap.size + 1 + 1 + 1, 0, none⟩) 2 2] 24 (0, 0)) := by
    rw [← hW]; exact blk_alloc (blk_alloc (blk_alloc (blk_new w _) _) _) _
  have h1 : W.heap[w.heap.size + 1]? = some (.cells #[.int .i64 20, .string (⟨#[120]⟩ : ByteArray), .int .i64 1, .int .i64 2, .slice none 0 0] 24 (0, 0)) := by
    rw [← hW]
    have h := blk_new (w.alloc (.cells #[.int .i64 29, .string (⟨#[43]⟩ : ByteArray), .int .i64 0, .int .i64 6, .slice (some ⟨w.heap.size + 1 + 1 + 1, 0, none⟩) 2 2] 24)) (.cells #[.int .i64 20, .string (⟨#[120]⟩ : ByteArray), .int .i64 1, .int .i64 2, .slice none 0 0] 24)
    rw [World.size_alloc] at h
    exact blk_alloc (blk_alloc h _) _
  have h3 : W.heap[w.heap.size + 1 + 1 + 1]? = some (.cells #[.int .i64 28, .string (⟨#[45]⟩ : ByteArray), .int .i64 0, .int .i64 2, .slice (some ⟨w.heap.size + 1, 0, none⟩) 1 1, .int .i64 24, .string (⟨#[49]⟩ : ByteArray), .int .i64 5, .int .i64 6, .slice none 0 0] 24 (0, 0)) := by
    rw [← hW]
    have h := blk_new (((w.alloc (.cells #[.int .i64 29, .string (⟨#[43]⟩ : ByteArray), .int .i64 0, .int .i64 6, .slice (some ⟨w.heap.size + 1 + 1 + 1, 0, none⟩) 2 2] 24)).alloc (.cells #[.int .i64 20, .string (⟨#[120]⟩ : ByteArray), .int .i64 1, .int .i64 2, .slice none 0 0] 24)).alloc
      (.cells #[.int .i64 28, .string (⟨#[45]⟩ : ByteArray), .int .i64 0, .int .i64 2, .slice (some ⟨w.heap.size + 1, 0, none⟩) 1 1] 24)) (.cells #[.int .i64 28, .string (⟨#[45]⟩ : ByteArray), .int .i64 0, .int .i64 2, .slice (some ⟨w.heap.size + 1, 0, none⟩) 1 1, .int .i64 24, .string (⟨#[49]⟩ : ByteArray), .int .i64 5, .int .i64 6, .slice none 0 0] 24)
    rw [World.size_alloc, World.size_alloc, World.size_alloc] at h
    exact h
  clear hW
  have hY : ∀ ok, k24.M W w.heap.size ok exY [.int .i64 20, .string (⟨#[120]⟩ : ByteArray), .int .i64 1, .int .i64 2, .slice none 0 0] := fun ok => k24_mkM W w.heap.size ok exY (Kd.R_nil _ _ _ _ _)
  have hN : ∀ ok, k24.M W w.heap.size ok exN [.int .i64 24, .string (⟨#[49]⟩ : ByteArray), .int .i64 5, .int .i64 6, .slice none 0 0] := fun ok => k24_mkM W w.heap.size ok exN (Kd.R_nil _ _ _ _ _)
  have hX : k24.M W w.heap.size (fun k => True ∧ some k ≠ some (w.heap.size + 1 + 1 + 1)) exX [.int .i64 28, .string (⟨#[45]⟩ : ByteArray), .int .i64 0, .int .i64 2, .slice (some ⟨w.heap.size + 1, 0, none⟩) 1 1] :=
    k24_mkM W w.heap.size _ exX (R_blk (xs := [exY]) (by omega) ⟨trivial, by intro e; injection e with e; omega⟩ h1 ((Reps.none _ 5).snoc (hY _) rfl) (by decide))
  have hR : Kd.R k24 24 W w.heap.size (fun _ => True) (.slice (some ⟨w.heap.size + 1 + 1 + 1, 0, none⟩) 2 2) [exX, exN] := R_blk (xs := [exX, exN]) (by omega) trivial h3 (((Reps.none _ 5).snoc hX rfl).snoc (hN _) rfl) (by decide)
  refine bodyPost_ret (results_cell_row rfl _ _ w.heap.size 24 #[.int .i64 29, .string (⟨#[43]⟩ : ByteArray), .int .i64 0, .int .i64 6, .slice (some ⟨w.heap.size + 1 + 1 + 1, 0, none⟩) 2 2] (0, 0) _ rfl h0 Try.underlying24 rfl (by kernel_rfl)) rfl ⟨_, rfl, hR, hb⟩
end Go.Proofs.Ytbheobngeocdfaa.PAll
