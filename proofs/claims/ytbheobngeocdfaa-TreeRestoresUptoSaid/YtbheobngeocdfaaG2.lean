/- The library's slices.Index, slices.Contains over ints and strings (written by gen_h8.py). Function values that test kinds and texts. The keywords: a map's literal of texts; Keyword (the list written by gen_h10.py). The lexer's run, Name, Number; tree's number. The lexer's Number, tree's number. The shapes: what their values are; a region's orders by an invariant. -/
import Derived.Test.YtbheobngeocdfaaG1
import Derived.Test.YtbheobngeocdfaaPAllxf23
import Derived.MapKept
import Derived.WideMake
namespace Go.Proofs.Ytbheobngeocdfaa.PAll
open Go.RowKit Go.Proofs.YtbheobngeocdfaaW.PrintWords Go.Proofs.YtbheobngeocdfaaW.PrintLast Go.Proofs.YtbheobngeocdfaaW.PrintMore
set_option linter.unusedVariables false
set_option linter.unusedSimpArgs false

theorem findIdx_or {α : Type} (p : α → Bool) (xs : List α) : (xs.findIdx? p = none ∧ xs.any p = false) ∨ (∃ j : Nat, xs.findIdx? p = some j ∧ xs.any p = true) := by
  cases hf : xs.findIdx? p with
  | none =>
    refine .inl ⟨rfl, ?_⟩
    rw [List.findIdx?_eq_none_iff] at hf
    simpa using hf
  | some j =>
    refine .inr ⟨j, rfl, ?_⟩
    rw [List.findIdx?_eq_some_iff_getElem] at hf
    obtain ⟨hj, h1, _⟩ := hf
    exact List.any_eq_true.2 ⟨_, List.getElem_mem hj, h1⟩

def idxI (v : Int) (xs : List Int) : Int := match xs.findIdx? (fun x => v == x) with | some j => (j : Int) | none => -1
theorem idxI_lt (v : Int) (xs : List Int) : (decide (idxI v xs ≥ 0)) = xs.any (fun x => v == x) := by
  unfold idxI
  rcases findIdx_or (fun x => v == x) xs with ⟨h1, h2⟩ | ⟨j, h1, h2⟩ <;> rw [h1, h2] <;> simp

set_option maxRecDepth 100000 in
set_option maxHeartbeats 4000000 in
theorem IndexI_calls (xs : List Int) (hn : xs.length < 4611686018427387904) (A : Option Addr) (c : Nat) (v : Int) (w : World) (hC : Kd.C (Kd.int .i64) w A xs.length xs) (hc : xs.length ≤ c) :
    Calls Try.prog 96 #[.slice A xs.length c, .int .i64 v] w fun e w' => e = .returned (.int .i64 (idxI v xs)) ∧ Below w.heap.size w w' := by
  have HN := Aside0.mk hn
  clear hn
  have hus := Try.underlying33
  go_enter Try.func96, Try.ntmps96
  go_wp2
  go_loopw [8] (fun p wr => ∃ j : Nat, p = .int .i64 (j : Int) ∧ j ≤ xs.length ∧ (∀ i (h : i < xs.length), i < j → (v == xs[i]) = false) ∧ Below w.heap.size w wr)
      (fun p wr => xs.length - (intOf p).toNat)
  case atStart => exact ⟨0, rfl, Nat.zero_le _, fun i _ h => absurd h (Nat.not_lt_zero _), Below.refl _ _⟩
  case round =>
    obtain ⟨j, rfl, hjl, hsm, hbr⟩ := hrel
    by_cases hlt : j < xs.length
    · have hlt1 : (j : Int) < (xs.length : Int) := by omega
      have hge : (0 : Int) ≤ (j : Int) := by omega
      obtain ⟨ad, rfl, e0⟩ := Kd.at_int hC (j : Int) hge hlt1
      have hx : rd xs (j : Int) = xs[j] := by simp [rd, List.getElem?_eq_getElem hlt]
      rw [hx, Int.toNat_natCast] at e0
      have e1 : wr.cell? (ad.add j) = some (.int .i64 xs[j]) := (hbr.cell (World.block_lt_of_cell? w _ e0)).trans e0
      clear hx e0
      have HW : Aside0 (wrap64 ((j : Int) + 1) = ((j + 1 : Nat) : Int)) := ⟨wrap64_small24 (by have := HN.out; omega)⟩
      have HS := Aside0.mk hsm
      clear hsm
      cases hss : (v == xs[j]) with
      | true =>
        go_wp2
        go_ret
        have hi : xs.findIdx? (fun x => v == x) = some j := by
          rw [List.findIdx?_eq_some_iff_getElem]
          exact ⟨hlt, hss, fun i hi => by have := HS.out i (by omega) hi; simpa using this⟩
        refine ⟨by unfold idxI; rw [hi]; rfl, hbr⟩
      | false =>
        go_wp2
        go_roundw
        case rel =>
          refine ⟨j + 1, by rw [HW.out], hlt, fun i h hi => ?_, hbr⟩
          by_cases hij : i = j
          · subst hij; exact hss
          · exact HS.out i h (by omega)
        case measure => rw [HW.out]; show xs.length - (((j + 1 : Nat) : Int)).toNat < xs.length - (j : Int).toNat; omega
    · have hje : j = xs.length := by omega
      have hlt' : ¬ ((j : Int) < (xs.length : Int)) := by omega
      have hi : xs.findIdx? (fun x => v == x) = none := by
        rw [List.findIdx?_eq_none_iff]
        intro x hx
        obtain ⟨i, hi, rfl⟩ := List.getElem_of_mem hx
        exact hsm i hi (by omega)
      clear hsm
      go_wp2
      go_ret
      exact ⟨by unfold idxI; rw [hi]; rfl, hbr⟩

set_option maxRecDepth 100000 in
set_option maxHeartbeats 2000000 in
theorem ContainsI_calls (xs : List Int) (hn : xs.length < 4611686018427387904) (A : Option Addr) (c : Nat) (v : Int) (w : World) (hC : Kd.C (Kd.int .i64) w A xs.length xs) (hc : xs.length ≤ c) :
    Calls Try.prog 84 #[.slice A xs.length c, .int .i64 v] w fun e w' => e = .returned (.bool (xs.any (fun x => v == x))) ∧ Below w.heap.size w w' := by
  have HI := Aside0.mk (IndexI_calls xs hn A c v w hC hc)
  have HQ := Aside0.mk (idxI_lt v xs)
  clear hn hC hc
  go_enter Try.func84, Try.ntmps84
  go_wp2_with fail
  refine HI.out.mono ?_
  rintro e w1 ⟨rfl, hb⟩
  go_wp2
  go_ret
  exact ⟨by rw [← HQ.out]; rfl, hb⟩

def idxS (v : ByteArray) (xs : List ByteArray) : Int := match xs.findIdx? (fun x => v.toList == x.toList) with | some j => (j : Int) | none => -1
theorem idxS_lt (v : ByteArray) (xs : List ByteArray) : (decide (idxS v xs ≥ 0)) = xs.any (fun x => v.toList == x.toList) := by
  unfold idxS
  rcases findIdx_or (fun x => v.toList == x.toList) xs with ⟨h1, h2⟩ | ⟨j, h1, h2⟩ <;> rw [h1, h2] <;> simp

set_option maxRecDepth 100000 in
set_option maxHeartbeats 4000000 in
theorem IndexS_calls (xs : List ByteArray) (hn : xs.length < 4611686018427387904) (A : Option Addr) (c : Nat) (v : ByteArray) (w : World) (hC : Kd.C (Kd.string) w A xs.length xs) (hc : xs.length ≤ c) :
    Calls Try.prog 97 #[.slice A xs.length c, .string v] w fun e w' => e = .returned (.int .i64 (idxS v xs)) ∧ Below w.heap.size w w' := by
  have HN := Aside0.mk hn
  clear hn
  have hus := Try.underlying75
  go_enter Try.func97, Try.ntmps97
  go_wp2
  go_loopw [8] (fun p wr => ∃ j : Nat, p = .int .i64 (j : Int) ∧ j ≤ xs.length ∧ (∀ i (h : i < xs.length), i < j → (v.toList == xs[i].toList) = false) ∧ Below w.heap.size w wr)
      (fun p wr => xs.length - (intOf p).toNat)
  case atStart => exact ⟨0, rfl, Nat.zero_le _, fun i _ h => absurd h (Nat.not_lt_zero _), Below.refl _ _⟩
  case round =>
    obtain ⟨j, rfl, hjl, hsm, hbr⟩ := hrel
    by_cases hlt : j < xs.length
    · have hlt1 : (j : Int) < (xs.length : Int) := by omega
      have hge : (0 : Int) ≤ (j : Int) := by omega
      obtain ⟨ad, rfl, e0⟩ := Kd.at_string hC (j : Int) hge hlt1
      have hx : rdOf ByteArray.empty xs (j : Int) = xs[j] := by simp [rdOf, List.getElem?_eq_getElem hlt]
      rw [hx, Int.toNat_natCast] at e0
      have e1 : wr.cell? (ad.add j) = some (.string xs[j]) := (hbr.cell (World.block_lt_of_cell? w _ e0)).trans e0
      clear hx e0
      have HW : Aside0 (wrap64 ((j : Int) + 1) = ((j + 1 : Nat) : Int)) := ⟨wrap64_small24 (by have := HN.out; omega)⟩
      have HS := Aside0.mk hsm
      clear hsm
      cases hss : (v.toList == xs[j].toList) with
      | true =>
        go_wp2
        go_ret
        have hi : xs.findIdx? (fun x => v.toList == x.toList) = some j := by
          rw [List.findIdx?_eq_some_iff_getElem]
          exact ⟨hlt, hss, fun i hi => by have := HS.out i (by omega) hi; simpa using this⟩
        refine ⟨by unfold idxS; rw [hi]; rfl, hbr⟩
      | false =>
        go_wp2
        go_roundw
        case rel =>
          refine ⟨j + 1, by rw [HW.out], hlt, fun i h hi => ?_, hbr⟩
          by_cases hij : i = j
          · subst hij; exact hss
          · exact HS.out i h (by omega)
        case measure => rw [HW.out]; show xs.length - (((j + 1 : Nat) : Int)).toNat < xs.length - (j : Int).toNat; omega
    · have hje : j = xs.length := by omega
      have hlt' : ¬ ((j : Int) < (xs.length : Int)) := by omega
      have hi : xs.findIdx? (fun x => v.toList == x.toList) = none := by
        rw [List.findIdx?_eq_none_iff]
        intro x hx
        obtain ⟨i, hi, rfl⟩ := List.getElem_of_mem hx
        exact hsm i hi (by omega)
      clear hsm
      go_wp2
      go_ret
      exact ⟨by unfold idxS; rw [hi]; rfl, hbr⟩

set_option maxRecDepth 100000 in
set_option maxHeartbeats 2000000 in
theorem ContainsS_calls (xs : List ByteArray) (hn : xs.length < 4611686018427387904) (A : Option Addr) (c : Nat) (v : ByteArray) (w : World) (hC : Kd.C (Kd.string) w A xs.length xs) (hc : xs.length ≤ c) :
    Calls Try.prog 87 #[.slice A xs.length c, .string v] w fun e w' => e = .returned (.bool (xs.any (fun x => v.toList == x.toList))) ∧ Below w.heap.size w w' := by
  have HI := Aside0.mk (IndexS_calls xs hn A c v w hC hc)
  have HQ := Aside0.mk (idxS_lt v xs)
  clear hn hC hc
  go_enter Try.func87, Try.ntmps87
  go_wp2_with fail
  refine HI.out.mono ?_
  rintro e w1 ⟨rfl, hb⟩
  go_wp2
  go_ret
  exact ⟨by rw [← HQ.out]; rfl, hb⟩

end Go.Proofs.Ytbheobngeocdfaa.PAll
namespace Go.Proofs.Ytbheobngeocdfaa.PAll
open Go.RowKit Go.Proofs.YtbheobngeocdfaaW.PrintWords Go.Proofs.YtbheobngeocdfaaW.PrintLast Go.Proofs.YtbheobngeocdfaaW.PrintMore
set_option linter.unusedVariables false
set_option linter.unusedSimpArgs false

/-- every block of cells stays as it is -/
def KeepC (w w' : World) : Prop := ∀ (k : Nat) (o : Obj), w.heap[k]? = some o → o.isCells = true → w'.heap[k]? = some o
theorem KeepC.refl (w : World) : KeepC w w := fun _ _ h _ => h
theorem KeepC.trans {a b c : World} (h : KeepC a b) (k : KeepC b c) : KeepC a c := fun _ _ h1 h2 => k _ _ (h _ _ h1 h2) h2
theorem KeepC.of_below {a b : World} (h : Below a.heap.size a b) : KeepC a b := fun k o h1 _ => (h.block k (Array.getElem?_eq_some_iff.1 h1).1).trans h1
theorem KeepC.alloc (w : World) (o : Obj) : KeepC w (w.alloc o) := KeepC.of_below ((Below.refl _ w).alloc (Nat.le_refl _) o)
theorem KeepC.cells {w w' : World} (h : KeepC w w') {k : Nat} {cs t fr} (hc : w.heap[k]? = some (.cells cs t fr)) : w'.heap[k]? = some (.cells cs t fr) := h _ _ hc rfl
theorem KeepC.cell {w w' : World} (h : KeepC w w') {p : Addr} {v : Value} (hc : w.cell? p = some v) : w'.cell? p = some v := by
  obtain ⟨o, ho, hi⟩ := cells_of_cell hc
  exact (World.cell?_of_block ((h _ _ ho hi).trans ho.symm)).trans hc
theorem C_keepC {α : Type} {enc : α → Value} {h1 : ∀ x, (enc x).oneCell' = true} {w w' : World} {A : Option Addr} {n : Nat} {xs : List α} (h : (Kd.scalar enc h1).C w A n xs) (hk : KeepC w w') : (Kd.scalar enc h1).C w' A n xs := by
  refine ⟨h.1, h.2.1, fun hn => ?_⟩
  obtain ⟨ad, e, hc⟩ := h.2.2 hn
  refine ⟨ad, e, fun j p hj => ?_⟩
  obtain ⟨c, hs, hK, hcell⟩ := hc j p hj
  exact ⟨c, hs, hK, fun i u hi => hk.cell (hcell i u hi)⟩

theorem Drawn0_below {w w' : World} (h : Drawn0 w w') : Below w.heap.size w w' := by
  obtain ⟨n, rfl⟩ := h
  exact pw_below_drewN (Below.refl _ _) n

/-- a value that tests whole numbers as p does, in every later world -/
def IsTest (w : World) (v : Value) (p : Int → Bool) : Prop :=
  ∃ (id : Nat) (caps : List Value), v = .func (.func id) #[] caps.toArray ∧ (∀ args w2, (callFunc id args).run Try.prog w2 = .ok (.enter id args) w2) ∧ ∀ w', KeepC w w' → ∀ k : Int, Calls Try.prog id (.int .i64 k :: caps).toArray w' fun e w'' => e = .returned (.bool (p k)) ∧ Below w'.heap.size w' w''
def IsText (w : World) (v : Value) (q : ByteArray → Bool) : Prop :=
  ∃ (id : Nat) (caps : List Value), v = .func (.func id) #[] caps.toArray ∧ (∀ args w2, (callFunc id args).run Try.prog w2 = .ok (.enter id args) w2) ∧ ∀ w', KeepC w w' → ∀ s : ByteArray, s.size < 4611686018427387904 → Calls Try.prog id (.string s :: caps).toArray w' fun e w'' => e = .returned (.bool (q s)) ∧ Below w'.heap.size w' w''
theorem IsTest.keep {w w' : World} {v : Value} {p : Int → Bool} (h : IsTest w v p) (hk : KeepC w w') : IsTest w' v p := by
  obtain ⟨id, caps, e, he, h⟩ := h
  exact ⟨id, caps, e, he, fun w2 h2 => h w2 (hk.trans h2)⟩
theorem IsText.keep {w w' : World} {v : Value} {p : ByteArray → Bool} (h : IsText w v p) (hk : KeepC w w') : IsText w' v p := by
  obtain ⟨id, caps, e, he, h⟩ := h
  exact ⟨id, caps, e, he, fun w2 h2 => h w2 (hk.trans h2)⟩

def pExpr (k : Int) : Bool := if k ≥ 20 then decide (k ≤ 29) else false
def pStmt (k : Int) : Bool := if k ≥ 12 then decide (k ≤ 19) else false
def pType (k : Int) : Bool := if k = 9 then true else k == 10
def pPlace (k : Int) : Bool := if k = 20 then true else if k = 21 then true else k == 22
def qEmpty (s : ByteArray) : Bool := s.toList == ([] : List UInt8)

theorem isTest_expr (w : World) : IsTest w (.func (.func 44) #[] #[]) pExpr := ⟨44, [], rfl, enters_of Try.func44 (by kernel_rfl) rfl, fun w' _ k =>
  (tree_isExpression.calls k (pExpr k) w' (by unfold tree_isExpression.f pExpr; split <;> rfl)).mono fun e w'' h => ⟨h.1, Drawn0_below h.2⟩⟩
theorem isTest_stmt (w : World) : IsTest w (.func (.func 46) #[] #[]) pStmt := ⟨46, [], rfl, enters_of Try.func46 (by kernel_rfl) rfl, fun w' _ k =>
  (tree_isStatement.calls k (pStmt k) w' (by unfold tree_isStatement.f pStmt; split <;> rfl)).mono fun e w'' h => ⟨h.1, Drawn0_below h.2⟩⟩
theorem isTest_type (w : World) : IsTest w (.func (.func 63) #[] #[]) pType := ⟨63, [], rfl, enters_of Try.func63 (by kernel_rfl) rfl, fun w' _ k =>
  (tree_isType.calls k (pType k) w' (by unfold tree_isType.f pType; split <;> rfl)).mono fun e w'' h => ⟨h.1, Drawn0_below h.2⟩⟩
theorem isTest_place (w : World) : IsTest w (.func (.func 68) #[] #[]) pPlace := ⟨68, [], rfl, enters_of Try.func68 (by kernel_rfl) rfl, fun w' _ k =>
  (tree_isPlace.calls k (pPlace k) w' (by unfold tree_isPlace.f pPlace; split <;> (try split) <;> rfl)).mono fun e w'' h => ⟨h.1, Drawn0_below h.2⟩⟩
theorem isText_empty (w : World) : IsText w (.func (.func 65) #[] #[]) qEmpty := ⟨65, [], rfl, enters_of Try.func65 (by kernel_rfl) rfl, fun w' _ s _ =>
  (tree_empty.calls s (qEmpty s) w' rfl).mono fun e w'' h => ⟨h.1, Drawn0_below h.2⟩⟩

/-! ### one, optional, word -/
set_option maxRecDepth 100000 in
set_option maxHeartbeats 2000000 in
theorem one1_calls (l : List Int) (hn : l.length < 4611686018427387904) (A : Option Addr) (c : Nat) (b : Nat) (k : Int) (w : World) (hb : w.cell? ⟨b, 0, none⟩ = some (.slice A l.length c)) (hC : Kd.C (Kd.int .i64) w A l.length l) (hc : l.length ≤ c) :
    Calls Try.prog 83 #[.int .i64 k, .pointer (some ⟨b, 0, none⟩)] w fun e w' => e = .returned (.bool (l.any (fun x => k == x))) ∧ Below w.heap.size w w' := by
  have HI := Aside0.mk (ContainsI_calls l hn A c k w hC hc)
  clear hn hC hc
  go_enter Try.func83, Try.ntmps83
  go_wp2_with fail
  refine HI.out.mono ?_
  rintro e w1 ⟨rfl, hb1⟩
  go_wp2
  go_ret
  exact ⟨rfl, hb1⟩

set_option maxRecDepth 100000 in
set_option maxHeartbeats 2000000 in
theorem one_calls (l : List Int) (hn : l.length < 4611686018427387904) (A : Option Addr) (c : Nat) (w : World) (hC : Kd.C (Kd.int .i64) w A l.length l) (hc : l.length ≤ c) :
    Calls Try.prog 61 #[.slice A l.length c] w fun e w' => ∃ v, e = .returned v ∧ IsTest w' v (fun k => l.any (fun x => k == x)) ∧ Below w.heap.size w w' := by
  have HN := Aside0.mk hn
  have HC := Aside0.mk hC
  have HCC := Aside0.mk hc
  clear hn hC hc
  go_enter Try.func61, Try.ntmps61
  go_wp2
  go_ret
  have hb := (Below.refl w.heap.size w).alloc (Nat.le_refl _) (.cells #[.slice A l.length c] 33)
  have hcell : (w.alloc (.cells #[.slice A l.length c] 33)).cell? ⟨w.heap.size, 0, none⟩ = some (.slice A l.length c) := (blk_cell (World.alloc_heap_new _ _) 0).trans rfl
  exact ⟨_, rfl, ⟨83, [.pointer (some ⟨w.heap.size, 0, none⟩)], rfl, enters_of Try.func83 (by kernel_rfl) rfl, fun w' hk k => one1_calls l HN.out A c w.heap.size k w' (hk.cell hcell) (C_keepC HC.out ((KeepC.of_below hb).trans hk)) HCC.out⟩, hb⟩

set_option maxRecDepth 100000 in
set_option maxHeartbeats 2000000 in
theorem word1_calls (l : List ByteArray) (hn : l.length < 4611686018427387904) (A : Option Addr) (c : Nat) (b : Nat) (k : ByteArray) (w : World) (hb : w.cell? ⟨b, 0, none⟩ = some (.slice A l.length c)) (hC : Kd.C Kd.string w A l.length l) (hc : l.length ≤ c) :
    Calls Try.prog 86 #[.string k, .pointer (some ⟨b, 0, none⟩)] w fun e w' => e = .returned (.bool (l.any (fun x => k.toList == x.toList))) ∧ Below w.heap.size w w' := by
  have HI := Aside0.mk (ContainsS_calls l hn A c k w hC hc)
  clear hn hC hc
  go_enter Try.func86, Try.ntmps86
  go_wp2_with fail
  refine HI.out.mono ?_
  rintro e w1 ⟨rfl, hb1⟩
  go_wp2
  go_ret
  exact ⟨rfl, hb1⟩

set_option maxRecDepth 100000 in
set_option maxHeartbeats 2000000 in
theorem word_calls (l : List ByteArray) (hn : l.length < 4611686018427387904) (A : Option Addr) (c : Nat) (w : World) (hC : Kd.C Kd.string w A l.length l) (hc : l.length ≤ c) :
    Calls Try.prog 64 #[.slice A l.length c] w fun e w' => ∃ v, e = .returned v ∧ IsText w' v (fun k => l.any (fun x => k.toList == x.toList)) ∧ Below w.heap.size w w' := by
  have HN := Aside0.mk hn
  have HC := Aside0.mk hC
  have HCC := Aside0.mk hc
  clear hn hC hc
  go_enter Try.func64, Try.ntmps64
  go_wp2
  go_ret
  have hb := (Below.refl w.heap.size w).alloc (Nat.le_refl _) (.cells #[.slice A l.length c] 75)
  have hcell : (w.alloc (.cells #[.slice A l.length c] 75)).cell? ⟨w.heap.size, 0, none⟩ = some (.slice A l.length c) := (blk_cell (World.alloc_heap_new _ _) 0).trans rfl
  exact ⟨_, rfl, ⟨86, [.pointer (some ⟨w.heap.size, 0, none⟩)], rfl, enters_of Try.func86 (by kernel_rfl) rfl, fun w' hk k _ => word1_calls l HN.out A c w.heap.size k w' (hk.cell hcell) (C_keepC HC.out ((KeepC.of_below hb).trans hk)) HCC.out⟩, hb⟩

set_option maxRecDepth 100000 in
set_option maxHeartbeats 2000000 in
theorem optional1_calls (v : Value) (p : Int → Bool) (b : Nat) (k : Int) (w : World) (hb : w.cell? ⟨b, 0, none⟩ = some v) (hv : IsTest w v p) :
    Calls Try.prog 85 #[.int .i64 k, .pointer (some ⟨b, 0, none⟩)] w fun e w' => e = .returned (.bool (k == 0 || p k)) ∧ Below w.heap.size w w' := by
  obtain ⟨id, caps, rfl, he, h⟩ := hv
  have HI := Aside0.mk (h w (KeepC.refl w) k)
  clear h
  go_enter Try.func85, Try.ntmps85
  by_cases hk : k = 0
  · subst hk
    go_wp2
    go_ret
    exact ⟨by simp, Below.refl _ _⟩
  · have hkb : (k == 0) = false := by simpa using hk
    clear hk
    rw [hkb, Bool.false_or]
    go_wp2_with fail
    refine HI.out.mono ?_
    rintro e w1 ⟨rfl, hb1⟩
    go_wp2
    go_ret
    exact ⟨rfl, hb1⟩

set_option maxRecDepth 100000 in
set_option maxHeartbeats 2000000 in
theorem optional_calls (v : Value) (p : Int → Bool) (w : World) (hv : IsTest w v p) :
    Calls Try.prog 62 #[v] w fun e w' => ∃ u, e = .returned u ∧ IsTest w' u (fun k => k == 0 || p k) ∧ Below w.heap.size w w' := by
  have HV := Aside0.mk hv
  obtain ⟨id, caps, rfl, he, h⟩ := hv
  clear he h
  go_enter Try.func62, Try.ntmps62
  go_wp2
  go_ret
  obtain ⟨v, hve⟩ : ∃ v, Value.func (.func id) #[] caps.toArray = v := ⟨_, rfl⟩
  rw [hve] at HV ⊢
  have hb := (Below.refl w.heap.size w).alloc (Nat.le_refl _) (.cells #[v] 28)
  have hcell : (w.alloc (.cells #[v] 28)).cell? ⟨w.heap.size, 0, none⟩ = some v := (blk_cell (World.alloc_heap_new _ _) 0).trans rfl
  exact ⟨_, rfl, ⟨85, [.pointer (some ⟨w.heap.size, 0, none⟩)], rfl, enters_of Try.func85 (by kernel_rfl) rfl, fun w' hk k => optional1_calls v p w.heap.size k w' (hk.cell hcell) (HV.out.keep ((KeepC.of_below hb).trans hk))⟩, hb⟩

set_option maxRecDepth 100000 in
set_option maxHeartbeats 2000000 in
/-- shapes$1 -/
theorem either_calls (v1 v2 : Value) (p q : ByteArray → Bool) (b1 b2 : Nat) (s : ByteArray) (hs : s.size < 4611686018427387904) (w : World) (h1 : w.cell? ⟨b1, 0, none⟩ = some v1) (h2 : w.cell? ⟨b2, 0, none⟩ = some v2) (hv1 : IsText w v1 p) (hv2 : IsText w v2 q) :
    Calls Try.prog 66 #[.string s, .pointer (some ⟨b1, 0, none⟩), .pointer (some ⟨b2, 0, none⟩)] w fun e w' => e = .returned (.bool (p s || q s)) ∧ Below w.heap.size w w' := by
  have HV2 := Aside0.mk hv2
  obtain ⟨id, caps, rfl, he, h⟩ := hv1
  have HI := Aside0.mk (h w (KeepC.refl w) s hs)
  have HS := Aside0.mk hs
  have HC2 := Aside0.mk h2
  clear h hv2 hs h2
  go_enter Try.func66, Try.ntmps66
  go_wp2_with fail
  refine HI.out.mono ?_
  rintro e w1 ⟨rfl, hb1⟩
  obtain ⟨id2, caps2, rfl, he2, h2⟩ := HV2.out.keep (KeepC.of_below hb1)
  have HI2 := Aside0.mk (h2 w1 (KeepC.refl w1) s HS.out)
  have hc2 := (KeepC.of_below hb1).cell HC2.out
  have HB := Aside0.mk hb1
  clear h2 HV2 HI hb1
  cases hp : p s with
  | true =>
    go_wp2
    go_ret
    exact ⟨by simp [hp], HB.out⟩
  | false =>
    go_wp2_with fail
    refine HI2.out.mono ?_
    rintro e w2 ⟨rfl, hb2⟩
    go_wp2
    go_ret
    exact ⟨by simp [hp], HB.out.trans (hb2.mono HB.out.size)⟩
end Go.Proofs.Ytbheobngeocdfaa.PAll
namespace Go.Proofs.Ytbheobngeocdfaa.PAll
open Go.RowKit Go.Proofs.YtbheobngeocdfaaW.PrintWords Go.Proofs.YtbheobngeocdfaaW.PrintLast Go.Proofs.YtbheobngeocdfaaW.PrintMore
set_option linter.unusedVariables false
set_option linter.unusedSimpArgs false

/-! ### a key in a map's entries -/
theorem findNow_none {kind : TypeDesc} {k : Value} {es : List MapEntry} (h : ∀ e ∈ es, Instr.sameNow kind k e.key = some false) (i : Nat) : Instr.findNow kind k es i = some none := by
  induction es generalizing i with
  | nil => rfl
  | cons e es ih =>
    simp only [Instr.findNow, h e (List.mem_cons_self ..)]
    exact ih (fun e' he => h e' (List.mem_cons_of_mem _ he)) _
theorem findNow_some {kind : TypeDesc} {k : Value} {es : List MapEntry} (h : ∀ e ∈ es, ∃ b, Instr.sameNow kind k e.key = some b) (hx : ∃ e ∈ es, Instr.sameNow kind k e.key = some true) (i : Nat) :
    ∃ j e, e ∈ es ∧ Instr.sameNow kind k e.key = some true ∧ Instr.findNow kind k es i = some (some (j, e.val)) := by
  induction es generalizing i with
  | nil => obtain ⟨e, he, _⟩ := hx; cases he
  | cons e es ih =>
    obtain ⟨b, hb⟩ := h e (List.mem_cons_self ..)
    cases b with
    | true => exact ⟨i, e, List.mem_cons_self .., hb, by simp only [Instr.findNow, hb]⟩
    | false =>
      obtain ⟨e', he', ht⟩ := hx
      have he2 : e' ∈ es := by
        rcases List.mem_cons.1 he' with rfl | h'
        · rw [hb] at ht; cases ht
        · exact h'
      obtain ⟨j, e2, h1, h2, h3⟩ := ih (fun e3 h3 => h e3 (List.mem_cons_of_mem _ h3)) ⟨e', he2, ht⟩ (i + 1)
      exact ⟨j, e2, List.mem_cons_of_mem _ h1, h2, by simp only [Instr.findNow, hb]; exact h3⟩

/-- the entries behind the inserting of texts (the last one first) -/
def kes : List ByteArray → Array MapEntry
  | [] => #[]
  | s :: l => (kes l).push ⟨.string s, .bool true, l.length⟩
def kmap (l : List ByteArray) : Obj := .map (kes l) l.length
theorem mem_kes {l : List ByteArray} {e : MapEntry} (h : e ∈ (kes l).toList) : ∃ s ∈ l, e.key = .string s ∧ e.val = .bool true := by
  induction l with
  | nil => simp [kes] at h
  | cons s l ih =>
    simp only [kes, Array.toList_push, List.mem_append, List.mem_singleton] at h
    rcases h with h | rfl
    · obtain ⟨s', h1, h2⟩ := ih h; exact ⟨s', List.mem_cons_of_mem _ h1, h2⟩
    · exact ⟨s, List.mem_cons_self .., rfl, rfl⟩
theorem kes_mem {l : List ByteArray} {s : ByteArray} (h : s ∈ l) : ∃ e ∈ (kes l).toList, e.key = .string s := by
  induction l with
  | nil => cases h
  | cons t l ih =>
    simp only [kes, Array.toList_push, List.mem_append, List.mem_singleton]
    rcases List.mem_cons.1 h with rfl | h
    · exact ⟨_, .inr rfl, rfl⟩
    · obtain ⟨e, h1, h2⟩ := ih h; exact ⟨e, .inl h1, h2⟩

theorem insert_kmap (w : World) (l : List ByteArray) (s : ByteArray) (h : ∀ x ∈ l, (s == x) = false) :
    (Instr.mapUpdate 83 (.map (some w.heap.size)) (.string s) (.bool true)).run Try.prog (w.alloc (kmap l)) = .ok () (w.alloc (kmap (s :: l))) := by
  have hm := Try.underlying83
  have hk := Try.underlying9
  have hb : (w.alloc (kmap l)).heap[w.heap.size]? = some (.map (kes l) l.length) := World.alloc_heap_new _ _
  have hf : Instr.findNow .string (.string s) (kes l).toList 0 = some none := findNow_none (fun e he => by
    obtain ⟨x, hx, h1, _⟩ := mem_kes he
    rw [h1]; simp only [Instr.sameNow, h x hx]) 0
  have hc : (Instr.checkKey false 10000 9 (.string s)).run Try.prog (w.alloc (kmap l)) = .ok () (w.alloc (kmap l)) := MapKept.run_checkKey (k := .string s) hk (by simp [MapKept.IsKey]) false 9999
  have hset : ({ (w.alloc (kmap l)) with heap := (w.alloc (kmap l)).heap.setIfInBounds w.heap.size (.map ((kes l).push ⟨.string s, .bool true, l.length⟩) (l.length + 1)) } : World) = w.alloc (kmap (s :: l)) := by
    simp only [World.alloc, kmap, kes]
    congr 1
    apply Array.ext
    · simp
    · intro i h1 h2
      have h3 : i < w.heap.size + 1 := by simpa using h1
      by_cases hi : i = w.heap.size
      · subst hi; simp [Array.getElem_setIfInBounds, Array.getElem_push]
      · have h4 : i < w.heap.size := by omega
        have h5 : w.heap.size ≠ i := fun e => hi e.symm
        rw [Array.getElem_setIfInBounds_ne (by simp; omega) h5, Array.getElem_push_lt h4, Array.getElem_push_lt h4]
  simp [Instr.mapUpdate, run_underlying hm, MapKept.run_getObj_map hb, hc, MapKept.run_findKey hk hf, MapKept.run_setObj_map _ hb, Result.andThen]
  exact hset

theorem lookup_kmap (w : World) (b : Nat) (l : List ByteArray) (s : ByteArray) (hb : w.heap[b]? = some (kmap l)) :
    (Instr.lookup 83 (.map (some b)) (.string s) false).run Try.prog w = .ok (.bool (l.any (fun x => s == x))) w := by
  have hm := Try.underlying83
  have hk := Try.underlying9
  have hz := Try.zeroValue4 w
  have hc : (Instr.checkKey (kes l).isEmpty 10000 9 (.string s)).run Try.prog w = .ok () w := MapKept.run_checkKey (k := .string s) hk (by simp [MapKept.IsKey]) _ 9999
  cases ha : l.any (fun x => s == x) with
  | false =>
    have hf : Instr.findNow .string (.string s) (kes l).toList 0 = some none := findNow_none (fun e he => by
      obtain ⟨x, hx, h1, _⟩ := mem_kes he
      rw [h1]; simp only [Instr.sameNow]
      rw [List.any_eq_false] at ha
      have := ha x hx
      simpa using this) 0
    simp [Instr.lookup, run_underlying hm, MapKept.run_getObj_map hb, hc, MapKept.run_findKey hk hf, hz, Result.andThen]
  | true =>
    obtain ⟨x, hx, hsx⟩ := List.any_eq_true.1 ha
    obtain ⟨e, he, hek⟩ := kes_mem hx
    obtain ⟨j, e2, h1, h2, h3⟩ := findNow_some (kind := .string) (k := .string s) (es := (kes l).toList) (fun e he => by
      obtain ⟨x, hx, h1, _⟩ := mem_kes he
      rw [h1]; exact ⟨_, rfl⟩) ⟨e, he, by rw [hek]; simp only [Instr.sameNow, hsx]⟩ 0
    obtain ⟨_, _, _, hv⟩ := mem_kes h1
    rw [hv] at h3
    simp [Instr.lookup, run_underlying hm, MapKept.run_getObj_map hb, hc, MapKept.run_findKey hk h3, Result.andThen]

def keywordList : List ByteArray := [(⟨#[108, 101, 110]⟩ : ByteArray), (⟨#[98, 111, 111, 108]⟩ : ByteArray), (⟨#[105, 110, 116]⟩ : ByteArray), (⟨#[102, 97, 108, 115, 101]⟩ : ByteArray), (⟨#[116, 114, 117, 101]⟩ : ByteArray), (⟨#[110, 111, 116]⟩ : ByteArray), (⟨#[111, 114]⟩ : ByteArray), (⟨#[97, 110, 100]⟩ : ByteArray), (⟨#[97, 115, 115, 101, 114, 116]⟩ : ByteArray), (⟨#[114, 101, 116, 117, 114, 110]⟩ : ByteArray), (⟨#[116, 111]⟩ : ByteArray), (⟨#[102, 111, 114]⟩ : ByteArray), (⟨#[119, 104, 105, 108, 101]⟩ : ByteArray), (⟨#[101, 108, 115, 101]⟩ : ByteArray), (⟨#[105, 102]⟩ : ByteArray), (⟨#[118, 97, 114]⟩ : ByteArray), (⟨#[112, 114, 111, 99]⟩ : ByteArray), (⟨#[114, 101, 99, 111, 114, 100]⟩ : ByteArray)]

set_option maxRecDepth 100000 in
set_option maxHeartbeats 4000000 in
theorem keywords_calls (w : World) : Calls Try.prog 95 #[] w fun e w' => e = .returned (.map (some w.heap.size)) ∧ w' = w.alloc (kmap keywordList) := by
  have hmk := run_makeMap_plain (P := Try.prog) w 83
  rw [show (Obj.map #[] 0) = kmap [] from rfl] at hmk
  have h0 := insert_kmap w [] (⟨#[114, 101, 99, 111, 114, 100]⟩ : ByteArray) (by decide)
  have h1 := insert_kmap w [(⟨#[114, 101, 99, 111, 114, 100]⟩ : ByteArray)] (⟨#[112, 114, 111, 99]⟩ : ByteArray) (by decide)
  have h2 := insert_kmap w [(⟨#[112, 114, 111, 99]⟩ : ByteArray), (⟨#[114, 101, 99, 111, 114, 100]⟩ : ByteArray)] (⟨#[118, 97, 114]⟩ : ByteArray) (by decide)
  have h3 := insert_kmap w [(⟨#[118, 97, 114]⟩ : ByteArray), (⟨#[112, 114, 111, 99]⟩ : ByteArray), (⟨#[114, 101, 99, 111, 114, 100]⟩ : ByteArray)] (⟨#[105, 102]⟩ : ByteArray) (by decide)
  have h4 := insert_kmap w [(⟨#[105, 102]⟩ : ByteArray), (⟨#[118, 97, 114]⟩ : ByteArray), (⟨#[112, 114, 111, 99]⟩ : ByteArray), (⟨#[114, 101, 99, 111, 114, 100]⟩ : ByteArray)] (⟨#[101, 108, 115, 101]⟩ : ByteArray) (by decide)
  have h5 := insert_kmap w [(⟨#[101, 108, 115, 101]⟩ : ByteArray), (⟨#[105, 102]⟩ : ByteArray), (⟨#[118, 97, 114]⟩ : ByteArray), (⟨#[112, 114, 111, 99]⟩ : ByteArray), (⟨#[114, 101, 99, 111, 114, 100]⟩ : ByteArray)] (⟨#[119, 104, 105, 108, 101]⟩ : ByteArray) (by decide)
  have h6 := insert_kmap w [(⟨#[119, 104, 105, 108, 101]⟩ : ByteArray), (⟨#[101, 108, 115, 101]⟩ : ByteArray), (⟨#[105, 102]⟩ : ByteArray), (⟨#[118, 97, 114]⟩ : ByteArray), (⟨#[112, 114, 111, 99]⟩ : ByteArray), (⟨#[114, 101, 99, 111, 114, 100]⟩ : ByteArray)] (⟨#[102, 111, 114]⟩ : ByteArray) (by decide)
  have h7 := insert_kmap w [(⟨#[102, 111, 114]⟩ : ByteArray), (⟨#[119, 104, 105, 108, 101]⟩ : ByteArray), (⟨#[101, 108, 115, 101]⟩ : ByteArray), (⟨#[105, 102]⟩ : ByteArray), (⟨#[118, 97, 114]⟩ : ByteArray), (⟨#[112, 114, 111, 99]⟩ : ByteArray), (⟨#[114, 101, 99, 111, 114, 100]⟩ : ByteArray)] (⟨#[116, 111]⟩ : ByteArray) (by decide)
  have h8 := insert_kmap w [(⟨#[116, 111]⟩ : ByteArray), (⟨#[102, 111, 114]⟩ : ByteArray), (⟨#[119, 104, 105, 108, 101]⟩ : ByteArray), (⟨#[101, 108, 115, 101]⟩ : ByteArray), (⟨#[105, 102]⟩ : ByteArray), (⟨#[118, 97, 114]⟩ : ByteArray), (⟨#[112, 114, 111, 99]⟩ : ByteArray), (⟨#[114, 101, 99, 111, 114, 100]⟩ : ByteArray)] (⟨#[114, 101, 116, 117, 114, 110]⟩ : ByteArray) (by decide)
  have h9 := insert_kmap w [(⟨#[114, 101, 116, 117, 114, 110]⟩ : ByteArray), (⟨#[116, 111]⟩ : ByteArray), (⟨#[102, 111, 114]⟩ : ByteArray), (⟨#[119, 104, 105, 108, 101]⟩ : ByteArray), (⟨#[101, 108, 115, 101]⟩ : ByteArray), (⟨#[105, 102]⟩ : ByteArray), (⟨#[118, 97, 114]⟩ : ByteArray), (⟨#[112, 114, 111, 99]⟩ : ByteArray), (⟨#[114, 101, 99, 111, 114, 100]⟩ : ByteArray)] (⟨#[97, 115, 115, 101, 114, 116]⟩ : ByteArray) (by decide)
  have h10 := insert_kmap w [(⟨#[97, 115, 115, 101, 114, 116]⟩ : ByteArray), (⟨#[114, 101, 116, 117, 114, 110]⟩ : ByteArray), (⟨#[116, 111]⟩ : ByteArray), (⟨#[102, 111, 114]⟩ : ByteArray), (⟨#[119, 104, 105, 108, 101]⟩ : ByteArray), (⟨#[101, 108, 115, 101]⟩ : ByteArray), (⟨#[105, 102]⟩ : ByteArray), (⟨#[118, 97, 114]⟩ : ByteArray), (⟨#[112, 114, 111, 99]⟩ : ByteArray), (⟨#[114, 101, 99, 111, 114, 100]⟩ : ByteArray)] (⟨#[97, 110, 100]⟩ : ByteArray) (by decide)
  have h11 := insert_kmap w [(⟨#[97, 110, 100]⟩ : ByteArray), (⟨#[97, 115, 115, 101, 114, 116]⟩ : ByteArray), (⟨#[114, 101, 116, 117, 114, 110]⟩ : ByteArray), (⟨#[116, 111]⟩ : ByteArray), (⟨#[102, 111, 114]⟩ : ByteArray), (⟨#[119, 104, 105, 108, 101]⟩ : ByteArray), (⟨#[101, 108, 115, 101]⟩ : ByteArray), (⟨#[105, 102]⟩ : ByteArray), (⟨#[118, 97, 114]⟩ : ByteArray), (⟨#[112, 114, 111, 99]⟩ : ByteArray), (⟨#[114, 101, 99, 111, 114, 100]⟩ : ByteArray)] (⟨#[111, 114]⟩ : ByteArray) (by decide)
  have h12 := insert_kmap w [(⟨#[111, 114]⟩ : ByteArray), (⟨#[97, 110, 100]⟩ : ByteArray), (⟨#[97, 115, 115, 101, 114, 116]⟩ : ByteArray), (⟨#[114, 101, 116, 117, 114, 110]⟩ : ByteArray), (⟨#[116, 111]⟩ : ByteArray), (⟨#[102, 111, 114]⟩ : ByteArray), (⟨#[119, 104, 105, 108, 101]⟩ : ByteArray), (⟨#[101, 108, 115, 101]⟩ : ByteArray), (⟨#[105, 102]⟩ : ByteArray), (⟨#[118, 97, 114]⟩ : ByteArray), (⟨#[112, 114, 111, 99]⟩ : ByteArray), (⟨#[114, 101, 99, 111, 114, 100]⟩ : ByteArray)] (⟨#[110, 111, 116]⟩ : ByteArray) (by decide)
  have h13 := insert_kmap w [(⟨#[110, 111, 116]⟩ : ByteArray), (⟨#[111, 114]⟩ : ByteArray), (⟨#[97, 110, 100]⟩ : ByteArray), (⟨#[97, 115, 115, 101, 114, 116]⟩ : ByteArray), (⟨#[114, 101, 116, 117, 114, 110]⟩ : ByteArray), (⟨#[116, 111]⟩ : ByteArray), (⟨#[102, 111, 114]⟩ : ByteArray), (⟨#[119, 104, 105, 108, 101]⟩ : ByteArray), (⟨#[101, 108, 115, 101]⟩ : ByteArray), (⟨#[105, 102]⟩ : ByteArray), (⟨#[118, 97, 114]⟩ : ByteArray), (⟨#[112, 114, 111, 99]⟩ : ByteArray), (⟨#[114, 101, 99, 111, 114, 100]⟩ : ByteArray)] (⟨#[116, 114, 117, 101]⟩ : ByteArray) (by decide)
  have h14 := insert_kmap w [(⟨#[116, 114, 117, 101]⟩ : ByteArray), (⟨#[110, 111, 116]⟩ : ByteArray), (⟨#[111, 114]⟩ : ByteArray), (⟨#[97, 110, 100]⟩ : ByteArray), (⟨#[97, 115, 115, 101, 114, 116]⟩ : ByteArray), (⟨#[114, 101, 116, 117, 114, 110]⟩ : ByteArray), (⟨#[116, 111]⟩ : ByteArray), (⟨#[102, 111, 114]⟩ : ByteArray), (⟨#[119, 104, 105, 108, 101]⟩ : ByteArray), (⟨#[101, 108, 115, 101]⟩ : ByteArray), (⟨#[105, 102]⟩ : ByteArray), (⟨#[118, 97, 114]⟩ : ByteArray), (⟨#[112, 114, 111, 99]⟩ : ByteArray), (⟨#[114, 101, 99, 111, 114, 100]⟩ : ByteArray)] (⟨#[102, 97, 108, 115, 101]⟩ : ByteArray) (by decide)
  have h15 := insert_kmap w [(⟨#[102, 97, 108, 115, 101]⟩ : ByteArray), (⟨#[116, 114, 117, 101]⟩ : ByteArray), (⟨#[110, 111, 116]⟩ : ByteArray), (⟨#[111, 114]⟩ : ByteArray), (⟨#[97, 110, 100]⟩ : ByteArray), (⟨#[97, 115, 115, 101, 114, 116]⟩ : ByteArray), (⟨#[114, 101, 116, 117, 114, 110]⟩ : ByteArray), (⟨#[116, 111]⟩ : ByteArray), (⟨#[102, 111, 114]⟩ : ByteArray), (⟨#[119, 104, 105, 108, 101]⟩ : ByteArray), (⟨#[101, 108, 115, 101]⟩ : ByteArray), (⟨#[105, 102]⟩ : ByteArray), (⟨#[118, 97, 114]⟩ : ByteArray), (⟨#[112, 114, 111, 99]⟩ : ByteArray), (⟨#[114, 101, 99, 111, 114, 100]⟩ : ByteArray)] (⟨#[105, 110, 116]⟩ : ByteArray) (by decide)
  have h16 := insert_kmap w [(⟨#[105, 110, 116]⟩ : ByteArray), (⟨#[102, 97, 108, 115, 101]⟩ : ByteArray), (⟨#[116, 114, 117, 101]⟩ : ByteArray), (⟨#[110, 111, 116]⟩ : ByteArray), (⟨#[111, 114]⟩ : ByteArray), (⟨#[97, 110, 100]⟩ : ByteArray), (⟨#[97, 115, 115, 101, 114, 116]⟩ : ByteArray), (⟨#[114, 101, 116, 117, 114, 110]⟩ : ByteArray), (⟨#[116, 111]⟩ : ByteArray), (⟨#[102, 111, 114]⟩ : ByteArray), (⟨#[119, 104, 105, 108, 101]⟩ : ByteArray), (⟨#[101, 108, 115, 101]⟩ : ByteArray), (⟨#[105, 102]⟩ : ByteArray), (⟨#[118, 97, 114]⟩ : ByteArray), (⟨#[112, 114, 111, 99]⟩ : ByteArray), (⟨#[114, 101, 99, 111, 114, 100]⟩ : ByteArray)] (⟨#[98, 111, 111, 108]⟩ : ByteArray) (by decide)
  have h17 := insert_kmap w [(⟨#[98, 111, 111, 108]⟩ : ByteArray), (⟨#[105, 110, 116]⟩ : ByteArray), (⟨#[102, 97, 108, 115, 101]⟩ : ByteArray), (⟨#[116, 114, 117, 101]⟩ : ByteArray), (⟨#[110, 111, 116]⟩ : ByteArray), (⟨#[111, 114]⟩ : ByteArray), (⟨#[97, 110, 100]⟩ : ByteArray), (⟨#[97, 115, 115, 101, 114, 116]⟩ : ByteArray), (⟨#[114, 101, 116, 117, 114, 110]⟩ : ByteArray), (⟨#[116, 111]⟩ : ByteArray), (⟨#[102, 111, 114]⟩ : ByteArray), (⟨#[119, 104, 105, 108, 101]⟩ : ByteArray), (⟨#[101, 108, 115, 101]⟩ : ByteArray), (⟨#[105, 102]⟩ : ByteArray), (⟨#[118, 97, 114]⟩ : ByteArray), (⟨#[112, 114, 111, 99]⟩ : ByteArray), (⟨#[114, 101, 99, 111, 114, 100]⟩ : ByteArray)] (⟨#[108, 101, 110]⟩ : ByteArray) (by decide)
  go_enter Try.func95, Try.ntmps95
  go_wp2
  go_ret
  exact ⟨rfl, rfl⟩

def lexer_Keyword.f (a0 : ByteArray) : Option Bool := some (keywordList.any (fun x => a0 == x))
set_option maxHeartbeats 2000000 in
theorem lexer_Keyword.calls (a0 : ByteArray) (r : Bool) (w : World) (h : lexer_Keyword.f a0 = some r) :
    Calls Try.prog 79 #[.string a0] w fun e w' => e = .returned (.bool r) ∧ Below w.heap.size w w' := by
  obtain rfl := Option.some.inj h
  have hK := keywords_calls w
  have hl := lookup_kmap (w.alloc (kmap keywordList)) w.heap.size keywordList a0 (World.alloc_heap_new _ _)
  have hb : Below w.heap.size w (w.alloc (kmap keywordList)) := (Below.refl _ w).alloc (Nat.le_refl _) _
  generalize keywordList.any (fun x => a0 == x) = r at hl ⊢
  generalize w.alloc (kmap keywordList) = w2 at hK hl hb
  go_enter Try.func79, Try.ntmps79
  go_wp2_with fail
  refine hK.mono ?_
  rintro e w1 ⟨rfl, rfl⟩
  go_wp2
  go_ret
  exact ⟨rfl, hb⟩
end Go.Proofs.Ytbheobngeocdfaa.PAll
namespace Go.Proofs.Ytbheobngeocdfaa.PAll
open Go.RowKit Go.Proofs.YtbheobngeocdfaaW.PrintWords Go.Proofs.YtbheobngeocdfaaW.PrintLast Go.Proofs.YtbheobngeocdfaaW.PrintMore
set_option linter.unusedVariables false
set_option linter.unusedSimpArgs false

/-- all bytes have the property -/
def allB (s : ByteArray) (p : Int → Bool) : Bool := (List.range s.size).all fun i => p (bt s i)
theorem allB_iff (s : ByteArray) (p : Int → Bool) : allB s p = true ↔ ∀ i : Nat, i < s.size → p (bt s i) = true := by simp [allB]

set_option maxRecDepth 100000 in
set_option maxHeartbeats 4000000 in
theorem run_calls (s : ByteArray) (hs : s.size < 4611686018427387904) (id : Nat) (p : Int → Bool) (he : ∀ args w2, (callFunc id args).run Try.prog w2 = .ok (.enter id args) w2)
    (hp : ∀ (c : Int) (w : World), Calls Try.prog id #[.int .u8 c] w fun e w' => e = .returned (.bool (p c)) ∧ Below w.heap.size w w') (w : World) :
    Calls Try.prog 80 #[.string s, .int .i64 0, .func (.func id) #[] #[]] w fun e w' => ∃ j : Nat, e = .returned (.int .i64 (j : Int)) ∧ j ≤ s.size ∧ (decide (j = s.size) = allB s p) ∧ Below w.heap.size w w' := by
  have HN := Aside0.mk hs
  have HP := Aside0.mk hp
  clear hs hp
  go_enter Try.func80, Try.ntmps80
  go_wp2
  go_loopw [1] (fun v wr => ∃ j : Nat, v = .int .i64 (j : Int) ∧ j ≤ s.size ∧ (∀ i : Nat, i < j → p (bt s i) = true) ∧ Below w.heap.size w wr)
      (fun v wr => s.size - (intOf v).toNat)
  case atStart => exact ⟨0, rfl, Nat.zero_le _, fun i h => absurd h (Nat.not_lt_zero _), Below.refl _ _⟩
  case round =>
    obtain ⟨j, rfl, hjl, hsm, hbr⟩ := hrel
    have HS := Aside0.mk hsm
    clear hsm
    by_cases hlt : j < s.size
    · have hltb : decide ((j : Int) < (s.size : Int)) = true := decide_eq_true (by omega)
      have hge : (0 : Int) ≤ (j : Int) := by omega
      have hx := bt_at s (j : Int)
      simp only [Int.toNat_natCast] at hx
      have HW : Aside0 (wrap64 ((j : Int) + 1) = ((j + 1 : Nat) : Int)) := ⟨wrap64_small24 (by have := HN.out; omega)⟩
      have HX := Aside0.mk (HP.out (bt s j) wr)
      go_wp2_with fail
      refine HX.out.mono ?_
      rintro e w1 ⟨rfl, hb⟩
      have hb3 := hbr.trans (hb.mono hbr.size)
      cases hss : p (bt s j) with
      | true =>
        go_wp2
        go_roundw
        case rel =>
          refine ⟨j + 1, by rw [HW.out], hlt, fun i hi => ?_, hb3⟩
          by_cases hij : i = j
          · subst hij; exact hss
          · exact HS.out i (by omega)
        case measure => rw [HW.out]; show s.size - (((j + 1 : Nat) : Int)).toNat < s.size - (j : Int).toNat; omega
      | false =>
        go_wp2
        go_ret
        refine ⟨j, rfl, hjl, ?_, hb3⟩
        have h1 : allB s p = false := by
          cases ha : allB s p with
          | false => rfl
          | true => rw [(allB_iff s p).1 ha j hlt] at hss; cases hss
        rw [h1]
        exact decide_eq_false (by omega)
    · have hltb : decide ((j : Int) < (s.size : Int)) = false := decide_eq_false (by omega)
      go_wp2
      go_ret
      refine ⟨j, rfl, hjl, ?_, hbr⟩
      have h1 : allB s p = true := (allB_iff s p).2 (fun i hi => HS.out i (by omega))
      rw [h1]
      exact decide_eq_true (by omega)

def pLetter (c : Int) : Bool := if c ≥ 97 then decide (c ≤ 122) else false
def pDigit (c : Int) : Bool := if c ≥ 48 then decide (c ≤ 57) else false
def pNameByte (c : Int) : Bool := if pLetter c then true else if pDigit c then true else c == 95

theorem letter_calls (c : Int) (w : World) : Calls Try.prog 78 #[.int .u8 c] w fun e w' => e = .returned (.bool (pLetter c)) ∧ Below w.heap.size w w' :=
  (lexer_letter.calls c (pLetter c) w (by unfold lexer_letter.f pLetter; split <;> rfl)).mono fun e w'' h => ⟨h.1, Drawn0_below h.2⟩
theorem digit_calls (c : Int) (w : World) : Calls Try.prog 82 #[.int .u8 c] w fun e w' => e = .returned (.bool (pDigit c)) ∧ Below w.heap.size w w' :=
  (lexer_digit.calls c (pDigit c) w (by unfold lexer_digit.f pDigit; split <;> rfl)).mono fun e w'' h => ⟨h.1, Drawn0_below h.2⟩

set_option maxRecDepth 100000 in
set_option maxHeartbeats 2000000 in
theorem nameByte_calls (c : Int) (w : World) : Calls Try.prog 81 #[.int .u8 c] w fun e w' => e = .returned (.bool (pNameByte c)) ∧ Below w.heap.size w w' := by
  have H1 := Aside0.mk (letter_calls c w)
  have H2 := Aside0.mk (fun w' => digit_calls c w')
  unfold pNameByte
  generalize pLetter c = bl at H1 ⊢
  generalize pDigit c = bd at H2 ⊢
  cases bl with
  | true =>
    rw [if_pos rfl]
    go_enter Try.func81, Try.ntmps81
    go_wp2_with fail
    refine H1.out.mono ?_
    rintro e w1 ⟨rfl, hb⟩
    go_wp2
    go_ret
    exact ⟨rfl, hb⟩
  | false =>
    cases bd with
    | true =>
      rw [if_neg (by decide), if_pos rfl]
      go_enter Try.func81, Try.ntmps81
      go_wp2_with fail
      refine H1.out.mono ?_
      rintro e w1 ⟨rfl, hb⟩
      go_wp2_with fail
      refine (H2.out w1).mono ?_
      rintro e w2 ⟨rfl, hb2⟩
      have hb3 := hb.trans (hb2.mono hb.size)
      go_wp2
      go_ret
      exact ⟨rfl, hb3⟩
    | false =>
      rw [if_neg (by decide), if_neg (by decide)]
      go_enter Try.func81, Try.ntmps81
      go_wp2_with fail
      refine H1.out.mono ?_
      rintro e w1 ⟨rfl, hb⟩
      go_wp2_with fail
      refine (H2.out w1).mono ?_
      rintro e w2 ⟨rfl, hb2⟩
      have hb3 := hb.trans (hb2.mono hb.size)
      go_wp2
      go_ret
      exact ⟨rfl, hb3⟩

/-- a name -/
def qName (s : ByteArray) : Bool :=
  if s.toList == ([] : List UInt8) then false else if (s.size : Int) > 16 then false else if pLetter (bt s 0) then (if keywordList.any (fun x => s == x) then false else allB s pNameByte) else false

set_option maxRecDepth 100000 in
set_option maxHeartbeats 4000000 in
set_option maxRecDepth 100000 in
theorem Name_calls (s : ByteArray) (w : World) : Calls Try.prog 60 #[.string s] w fun e w' => e = .returned (.bool (qName s)) ∧ Below w.heap.size w w' := by
  unfold qName
  cases h0 : s.toList == ([] : List UInt8) with
  | true =>
    go_enter Try.func60, Try.ntmps60
    go_wp2
    go_ret
    exact ⟨rfl, Below.refl _ _⟩
  | false =>
    by_cases h1 : (s.size : Int) > 16
    · have h1b : decide ((s.size : Int) > 16) = true := decide_eq_true h1
      rw [if_neg (by decide), if_pos h1]
      clear h1
      go_enter Try.func60, Try.ntmps60
      go_wp2
      go_ret
      exact ⟨rfl, Below.refl _ _⟩
    · have h1b : decide ((s.size : Int) > 16) = false := decide_eq_false h1
      have hpos : 0 < s.size := by
        rcases Nat.eq_zero_or_pos s.size with h | h
        · exfalso
          have : s.toList = [] := by rw [ByteArray.toList_eq]; exact Array.toList_eq_nil_iff.2 (Array.eq_empty_of_size_eq_zero h)
          rw [this] at h0; cases h0
        · exact h
      have hx : ∀ h : 0 < s.size, ((s[0]'h).toNat : Int) = bt s 0 := bt_at s 0
      have hge : (0 : Int) < (s.size : Int) := by omega
      rw [if_neg (by decide), if_neg h1]
      have HR := Aside0.mk (fun w' => run_calls s (Nat.lt_of_le_of_lt (show s.size ≤ 16 by omega) (by decide)) 81 pNameByte (enters_of Try.func81 (by kernel_rfl) rfl) nameByte_calls w')
      have H1 := Aside0.mk (letter_calls (bt s 0) w)
      have H2 := Aside0.mk (fun w' => lexer_Keyword.calls s _ w' rfl)
      clear h1
      generalize pLetter (bt s 0) = bl at H1 ⊢
      generalize keywordList.any (fun x => s == x) = bk at H2 ⊢
      generalize allB s pNameByte = ba at HR ⊢
      cases bl with
      | false =>
        rw [if_neg (by decide)]
        go_enter Try.func60, Try.ntmps60
        go_wp2_with fail
        refine H1.out.mono ?_
        rintro e w1 ⟨rfl, hb⟩
        go_wp2
        go_ret
        exact ⟨rfl, hb⟩
      | true =>
        rw [if_pos rfl]
        cases bk with
        | true =>
          rw [if_pos rfl]
          go_enter Try.func60, Try.ntmps60
          go_wp2_with fail
          refine H1.out.mono ?_
          rintro e w1 ⟨rfl, hb⟩
          go_wp2_with fail
          refine (H2.out w1).mono ?_
          rintro e w2 ⟨rfl, hb2⟩
          have hb3 := hb.trans (hb2.mono hb.size)
          go_wp2
          go_ret
          exact ⟨rfl, hb3⟩
        | false =>
          rw [if_neg (by decide)]
          go_enter Try.func60, Try.ntmps60
          go_wp2_with fail
          refine H1.out.mono ?_
          rintro e w1 ⟨rfl, hb⟩
          go_wp2_with fail
          refine (H2.out w1).mono ?_
          rintro e w2 ⟨rfl, hb2⟩
          have HB3 := Aside0.mk (hb.trans (hb2.mono hb.size))
          clear hb hb2
          go_wp2_with fail
          refine (HR.out w2).mono ?_
          rintro e w3 ⟨j, rfl, hj, hq, hb4⟩
          have hq2 : ((j : Int) == (s.size : Int)) = ba := by
            rw [← hq]
            by_cases h : j = s.size
            · simp [h]
            · have h' : ¬ (j : Int) = (s.size : Int) := by omega
              simp [h, h']
          have HB5 := Aside0.mk (HB3.out.trans (hb4.mono HB3.out.size))
          clear hb4 hq hj
          go_wp2
          go_ret
          exact ⟨by rw [← hq2]; rfl, HB5.out⟩

theorem isText_name (w : World) : IsText w (.func (.func 60) #[] #[]) qName := ⟨60, [], rfl, enters_of Try.func60 (by kernel_rfl) rfl, fun w' _ s _ => Name_calls s w'⟩
end Go.Proofs.Ytbheobngeocdfaa.PAll
namespace Go.Proofs.Ytbheobngeocdfaa.PAll
open Go.RowKit Go.Proofs.YtbheobngeocdfaaW.PrintWords Go.Proofs.YtbheobngeocdfaaW.PrintLast Go.Proofs.YtbheobngeocdfaaW.PrintMore
set_option linter.unusedVariables false
set_option linter.unusedSimpArgs false

/-- a number's digits -/
def qDigits (s : ByteArray) : Bool :=
  if s.toList == ([] : List UInt8) then false else if (s.size : Int) > 9 then false else allB s pDigit

set_option maxRecDepth 100000 in
set_option maxHeartbeats 4000000 in
theorem lexNumber_calls (s : ByteArray) (w : World) : Calls Try.prog 88 #[.string s] w fun e w' => ∃ n : Int, e = .returned (.tuple #[.int .i64 n, .bool (qDigits s)]) ∧ Below w.heap.size w w' := by
  unfold qDigits
  cases h0 : s.toList == ([] : List UInt8) with
  | true =>
    rw [if_pos rfl]
    go_enter Try.func88, Try.ntmps88
    go_wp2
    refine bodyPost_ret (results_tmp2 rfl _ _ _) rfl ?_
    exact ⟨0, rfl, Below.refl _ _⟩
  | false =>
    rw [if_neg (by decide)]
    by_cases h1 : (s.size : Int) > 9
    · have h1b : decide ((s.size : Int) > 9) = true := decide_eq_true h1
      rw [if_pos h1]
      clear h1
      go_enter Try.func88, Try.ntmps88
      go_wp2
      refine bodyPost_ret (results_tmp2 rfl _ _ _) rfl ?_
      exact ⟨0, rfl, Below.refl _ _⟩
    · have h1b : decide ((s.size : Int) > 9) = false := decide_eq_false h1
      rw [if_neg h1]
      have h9 : s.size ≤ 9 := by omega
      have hsz : s.size < 4611686018427387904 := Nat.lt_of_le_of_lt h9 (by decide)
      have HR := Aside0.mk (run_calls s hsz 82 pDigit (enters_of Try.func82 (by kernel_rfl) rfl) digit_calls w)
      have H9 := Aside0.mk h9
      clear h1 hsz h9
      generalize allB s pDigit = ba at HR ⊢
      go_enter Try.func88, Try.ntmps88
      go_wp2_with fail
      refine HR.out.mono ?_
      rintro e w1 ⟨j, rfl, hj, hq, hb⟩
      cases ba with
      | false =>
        have hlt : j < s.size := by
          have := of_decide_eq_false hq
          omega
        clear hq hj
        go_wp2
        refine bodyPost_ret (results_tmp2 rfl _ _ _) rfl ?_
        exact ⟨0, rfl, hb⟩
      | true =>
        have hje : j = s.size := of_decide_eq_true hq
        subst hje
        clear hq hj
        have hcv := Lib.run_convert_string_bytes (P := Try.prog) w1 9 87 5 s Try.underlying9 Try.underlying87 Try.underlying5
        have hcell := Lib.bytesWorld_cell w1 5 s
        have hbw : Below w1.heap.size w1 (Lib.bytesWorld w1 5 s) := by
          refine ⟨?_, ?_, ?_, by rw [Lib.bytesWorld_size]; omega, fun k hk => Lib.bytesWorld_at_old w1 5 s k hk⟩ <;> simp [Lib.bytesWorld, World.freeze, World.alloc, World.drew, -World.alloc_eq, -World.drew_eq]
        have hsz : (Lib.bytesWorld w1 5 s).heap.size = w1.heap.size + 1 := Lib.bytesWorld_size _ _ _
        generalize Lib.bytesWorld w1 5 s = w2 at hcv hcell hbw hsz
        have HB := Aside0.mk (hb.trans (hbw.mono hb.size))
        have HSZ := Aside0.mk (show w1.heap.size < w2.heap.size by omega)
        have HCELL := Aside0.mk hcell
        clear hcell hbw hsz hb HR
        go_wp2_with fail
        go_loopw [24, 4] (fun p q wr => ∃ (j : Nat) (n : Int), p = .int .i64 (j : Int) ∧ q = .int .i64 n ∧ j ≤ s.size ∧ wr = w2)
          (fun p q wr => s.size - (intOf p).toNat)
        case atStart => exact ⟨0, 0, rfl, rfl, Nat.zero_le _, rfl⟩
        case round =>
          obtain ⟨j, n, rfl, rfl, hj, rfl⟩ := hrel
          by_cases hlt : j < s.size
          · have hltb : (j : Int) < (s.size : Int) := by omega
            have hge : (0 : Int) ≤ (j : Int) := by omega
            have hce := HCELL.out j hlt
            have HW : Aside0 (wrap64 ((j : Int) + 1) = ((j + 1 : Nat) : Int)) := ⟨wrap64_small24 (by have := H9.out; omega)⟩
            go_wp2
            go_roundw
            case rel => exact ⟨j + 1, _, by rw [HW.out], rfl, hlt, by first | rfl | trivial⟩
            case measure => rw [HW.out]; show s.size - (((j + 1 : Nat) : Int)).toNat < s.size - (j : Int).toNat; omega
          · have hje : j = s.size := by omega
            subst hje
            go_wp2
            refine bodyPost_ret (results_tmp2 rfl _ _ _) rfl ?_
            exact ⟨n, rfl, HB.out⟩

/-- a number without leading zeros -/
def qNumber (s : ByteArray) : Bool := if qDigits s then (if s.toList == ([48] : List UInt8) then true else bt s 0 != 48) else false

set_option maxRecDepth 100000 in
set_option maxHeartbeats 4000000 in
theorem number_calls (s : ByteArray) (w : World) : Calls Try.prog 67 #[.string s] w fun e w' => e = .returned (.bool (qNumber s)) ∧ Below w.heap.size w w' := by
  have HR := Aside0.mk (lexNumber_calls s w)
  have hpos : qDigits s = true → 0 < s.size := by
    intro h
    rcases Nat.eq_zero_or_pos s.size with h0 | h0
    · exfalso
      have : s.toList = [] := by rw [ByteArray.toList_eq]; exact Array.toList_eq_nil_iff.2 (Array.eq_empty_of_size_eq_zero h0)
      unfold qDigits at h
      rw [this] at h; simp at h
    · exact h0
  unfold qNumber
  generalize qDigits s = bd at HR hpos ⊢
  cases bd with
  | false =>
    rw [if_neg (by decide)]
    clear hpos
    go_enter Try.func67, Try.ntmps67
    go_wp2_with fail
    refine HR.out.mono ?_
    rintro e w1 ⟨n, rfl, hb⟩
    go_wp2
    go_ret
    exact ⟨rfl, hb⟩
  | true =>
    rw [if_pos rfl]
    have hp := hpos rfl
    have hge : (0 : Int) < (s.size : Int) := by omega
    have hx : ∀ h : 0 < s.size, ((s[0]'h).toNat : Int) = bt s 0 := bt_at s 0
    clear hpos
    cases h0 : s.toList == ([48] : List UInt8) with
    | true =>
      rw [if_pos rfl]
      go_enter Try.func67, Try.ntmps67
      go_wp2_with fail
      refine HR.out.mono ?_
      rintro e w1 ⟨n, rfl, hb⟩
      go_wp2
      go_ret
      exact ⟨rfl, hb⟩
    | false =>
      rw [if_neg (by decide)]
      go_enter Try.func67, Try.ntmps67
      go_wp2_with fail
      refine HR.out.mono ?_
      rintro e w1 ⟨n, rfl, hb⟩
      go_wp2
      go_ret
      exact ⟨rfl, hb⟩

theorem isText_number (w : World) : IsText w (.func (.func 67) #[] #[]) qNumber := ⟨67, [], rfl, enters_of Try.func67 (by kernel_rfl) rfl, fun w' _ s _ => number_calls s w'⟩
end Go.Proofs.Ytbheobngeocdfaa.PAll
namespace Go.Proofs.Ytbheobngeocdfaa.PAll
open Go.RowKit Go.Proofs.YtbheobngeocdfaaW.PrintWords Go.Proofs.YtbheobngeocdfaaW.PrintLast Go.Proofs.YtbheobngeocdfaaW.PrintMore
set_option linter.unusedVariables false
set_option linter.unusedSimpArgs false

/-! ### an invariant over all orders -/
theorem wpAny_inv {P : Program} {md : Region.Mode} {ops : Array Oper} {Q : Exit → Act → World → Prop} {I : Array Bool → Act → World → Prop}
    (hstep : ∀ listed a w i, I listed a w → i ∈ Region.ready md ops listed → wpOp P ops Q i (fun a' w' => I (listed.setIfInBounds i true) a' w') a w)
    (hdone : ∀ listed a w, I listed a w → Region.ready md ops listed = [] → Q .normal a w) :
    ∀ (fuel : Nat) (listed : Array Bool) (a : Act) (w : World) (u : List Nat), (∀ i, listed.getD i true = false → i ∈ u) → u.length ≤ fuel → I listed a w → wpAny P md ops Q fuel listed a w := by
  intro fuel
  induction fuel with
  | zero =>
    intro listed a w u hu hl hI
    have hr : Region.ready md ops listed = [] := by
      apply List.eq_nil_iff_forall_not_mem.2
      intro i hi
      have := hu i (mem_ready.1 hi).1
      have : u = [] := List.length_eq_zero_iff.1 (by omega)
      simp_all
    exact ⟨hr, hdone _ _ _ hI hr⟩
  | succ fuel ih =>
    intro listed a w u hu hl hI
    refine ⟨fun hr => hdone _ _ _ hI hr, fun i hi => ?_⟩
    have hui := hu i (mem_ready.1 hi).1
    refine wpOp_mono (fun a' w' hI' => ih _ a' w' (u.erase i) ?_ ?_ hI') (hstep _ _ _ i hI hi)
    · intro j hj
      by_cases hij : j = i
      · subst hij
        have hlt : j < listed.size := by
          rcases Nat.lt_or_ge j listed.size with h | h
          · exact h
          · have h2 := (mem_ready.1 hi).1
            rw [Array.getD_eq_getD_getElem?, Array.getElem?_eq_none h] at h2; cases h2
        rw [Array.getD_eq_getD_getElem?, Array.getElem?_setIfInBounds_self_of_lt hlt] at hj
        cases hj
      · rw [Array.getD_eq_getD_getElem?, Array.getElem?_setIfInBounds_ne (fun e => hij e.symm), ← Array.getD_eq_getD_getElem?] at hj
        exact (List.mem_erase_of_ne hij).2 (hu j hj)
    · rw [List.length_erase_of_mem hui]; omega

theorem wpOp_value {P : Program} {ops : Array Oper} {Q : Exit → Act → World → Prop} {i : Nat} {o : Oper} {K : Act → World → Prop} {a : Act} {w w' : World} {v : Value} (hi : ops[i]? = some o) (hg : o.guard = none)
    (hrun : (execOp a.eval o).run P w = .ok (.value v) w') (h : K (a.put o.dst v) w') : wpOp P ops Q i K a w := by
  unfold wpOp
  simp only [hi, Region.wanted, hg, if_true, Oper.wp, hrun, Oper.upon]
  exact .inl h
theorem wpOp_skip {P : Program} {ops : Array Oper} {Q : Exit → Act → World → Prop} {i : Nat} {o : Oper} {K : Act → World → Prop} {a : Act} {w w' : World} (hi : ops[i]? = some o) (hg : o.guard = none)
    (hrun : (execOp a.eval o).run P w = .ok .skip w') (h : K (a.put o.dst undef) w') : wpOp P ops Q i K a w := by
  unfold wpOp
  simp only [hi, Region.wanted, hg, if_true, Oper.wp, hrun, Oper.upon]
  exact .inl h
theorem wpOp_enter {P : Program} {ops : Array Oper} {Q : Exit → Act → World → Prop} {i : Nat} {o : Oper} {K : Act → World → Prop} {a : Act} {w w' : World} {f : FuncId} {args : Array Value} (hi : ops[i]? = some o) (hg : o.guard = none)
    (hrun : (execOp a.eval o).run P w = .ok (.enter f args) w') (h : Calls P f args w' fun e w2 => ∃ v, e = .returned v ∧ K (a.put o.dst v) w2) : wpOp P ops Q i K a w := by
  unfold wpOp
  simp only [hi, Region.wanted, hg, if_true, Oper.wp, hrun, Oper.upon]
  refine .inl (h.mono ?_)
  rintro e w2 ⟨v, rfl, hK⟩
  exact hK

/-! ### what a shape is -/
inductive Ts where
  | one (l : List Int)
  | opt (t : Ts)
  | expr | stmt | place | type
def Ts.ev : Ts → Int → Bool
  | .one l => fun k => l.any (fun x => k == x)
  | .opt t => fun k => k == 0 || t.ev k
  | .expr => pExpr
  | .stmt => pStmt
  | .place => pPlace
  | .type => pType
def wInt : ByteArray := ⟨#[105, 110, 116]⟩
def wBool : ByteArray := ⟨#[98, 111, 111, 108]⟩
inductive Tx where
  | name | number | empty
  | word (l : List ByteArray)
  | scalar
def Tx.ev : Tx → ByteArray → Bool
  | .name => qName
  | .number => qNumber
  | .empty => qEmpty
  | .word l => fun s => l.any (fun x => s.toList == x.toList)
  | .scalar => fun s => (fun s => [wInt, wBool].any (fun x => s.toList == x.toList)) s || qName s
structure Sh where
  text : Tx
  kids : List Ts
  list : Option Ts
  most : Int

def IsTests (w : World) (v : Value) (l : List Ts) : Prop :=
  (l = [] ∧ v = .slice none 0 0) ∨ (∃ (b : Nat) (vs : List Value), v = .slice (some ⟨b, 0, none⟩) l.length l.length ∧ w.heap[b]? = some (.cells vs.toArray 28 (0, 0)) ∧ vs.length = l.length ∧ ∀ (j : Nat) (t : Ts), l[j]? = some t → ∃ u, vs[j]? = some u ∧ IsTest w u t.ev)
def IsList (w : World) (v : Value) : Option Ts → Prop
  | none => v = .nilFunc
  | some t => IsTest w v t.ev
def IsShape (w : World) (v : Value) (s : Sh) : Prop :=
  ∃ tv kv lv, v = .agg #[tv, kv, lv, .int .i64 s.most] ∧ IsText w tv s.text.ev ∧ IsTests w kv s.kids ∧ IsList w lv s.list
theorem IsTests.keep {w w' : World} {v : Value} {l : List Ts} (h : IsTests w v l) (hk : KeepC w w') : IsTests w' v l := by
  rcases h with h | ⟨b, vs, h1, h2, h3, h4⟩
  · exact .inl h
  · exact .inr ⟨b, vs, h1, hk.cells h2, h3, fun j t hj => by obtain ⟨u, hu, ht⟩ := h4 j t hj; exact ⟨u, hu, ht.keep hk⟩⟩
theorem IsList.keep {w w' : World} {v : Value} {l : Option Ts} (h : IsList w v l) (hk : KeepC w w') : IsList w' v l := by
  cases l with
  | none => exact h
  | some t => exact IsTest.keep h hk
theorem IsShape.keep {w w' : World} {v : Value} {s : Sh} (h : IsShape w v s) (hk : KeepC w w') : IsShape w' v s := by
  obtain ⟨tv, kv, lv, e, h1, h2, h3⟩ := h
  exact ⟨tv, kv, lv, e, h1.keep hk, h2.keep hk, h3.keep hk⟩

/-- what a temporary holds -/
inductive Sp where
  | other
  | map
  | ints (l : List Int)
  | strs (l : List ByteArray)
  | test (t : Ts)
  | tests (l : List Ts)
  | text (t : Tx)
  | ptr (t : Tx)
  | shape (s : Sh)
def Holds (mo : Option Nat) (w : World) (v : Value) : Sp → Prop
  | .other => True
  | .map => ∃ mb, mo = some mb ∧ v = .map (some mb)
  | .ints l => ∃ A c, v = .slice A l.length c ∧ Kd.C (Kd.int .i64) w A l.length l ∧ l.length ≤ c
  | .strs l => ∃ A c, v = .slice A l.length c ∧ Kd.C Kd.string w A l.length l ∧ l.length ≤ c
  | .test t => IsTest w v t.ev
  | .tests l => IsTests w v l
  | .text t => IsText w v t.ev
  | .ptr t => ∃ b u, v = .pointer (some ⟨b, 0, none⟩) ∧ w.cell? ⟨b, 0, none⟩ = some u ∧ IsText w u t.ev
  | .shape s => IsShape w v s
theorem Holds.keep {mo : Option Nat} {w w' : World} {v : Value} {s : Sp} (h : Holds mo w v s) (hk : KeepC w w') : Holds mo w' v s := by
  cases s with
  | other => trivial
  | map => exact h
  | ints l => obtain ⟨A, c, e, h1, h2⟩ := h; exact ⟨A, c, e, C_keepC h1 hk, h2⟩
  | strs l => obtain ⟨A, c, e, h1, h2⟩ := h; exact ⟨A, c, e, C_keepC h1 hk, h2⟩
  | test t => exact IsTest.keep h hk
  | tests l => exact IsTests.keep h hk
  | text t => exact IsText.keep h hk
  | ptr t => obtain ⟨b, u, e, h1, h2⟩ := h; exact ⟨b, u, e, hk.cell h1, h2.keep hk⟩
  | shape s => exact IsShape.keep h hk

/-! ### the operations -/
theorem run_buildShape (w : World) (f g : FuncId) (fn : Fn) (b c : Array Value) : (Instr.build 55 #[(0, .func fn b c)]).run Try.prog w = .ok (.agg #[.func fn b c, .slice none 0 0, .nilFunc, .int .i64 0]) w := by
  have h1 := Try.underlying55
  have h2 := Try.zeroValue55 w
  go_simp
end Go.Proofs.Ytbheobngeocdfaa.PAll
