/- The attempts that count, as the program's attempts.chosen lists them: what its calls come to: for fewer than 20 attempts. -/
import Derived.Test.YtdailoccmjeceaaH1
namespace Go.Proofs.Ytdailoccmjeceaa.PAll
open Go.RowKit Go.Lib Go.Sort Go.Proofs.YtdailoccmjeceaaW.PrintWords Go.Proofs.YtdailoccmjeceaaW.PrintLast Go.Proofs.YtdailoccmjeceaaW.PrintMore
attribute [local go_sem] max2_int min2_int max_two min_two max_three min_three max_four min_four
set_option linter.unusedVariables false
set_option linter.unusedSimpArgs false

section
variable {P : Program} {w : World} {ops : Array Oper} {rest : List Oper} {o : Oper} {a : Act} {Q : Exit → Act → World → Prop}
theorem run_copy_rowK (sz n : Nat) (dT sT ty elem : TypeId) (g off dLen dCap : Nat) (ad : Addr) (sLen sCap : Nat) (cur : Array Value) (t : TypeId) (cs : List Value)
    (hu : P.underlying dT = some (.slice elem)) (hs : (P.info? elem).map (·.size) = some sz) (hg : w.heap[g]? = some (.cells cur t (0, 0))) (hn : n = Nat.min sLen dLen) (hcs : cs.length = n * sz)
    (hsrc : ∀ j v, cs[j]? = some v → w.cell? (ad.add j) = some v) (hfit : off + cs.length ≤ cur.size) (h1 : ∀ v ∈ cs, v.oneCell' = true) :
    (Builtin.copy_ #[dT, sT] ty #[.slice (some ⟨g, off, none⟩) dLen dCap, .slice (some ad) sLen sCap]).run P w = .ok (goInt n) (w.setRow g (cur.toList.take off ++ cs ++ cur.toList.drop (off + cs.length)).toArray) := by
  have hl := run_loadCells_list (P := P) w ad cs hsrc
  have hst := run_storeCells_at P g off t cs 0 cur w hg (by simpa using hfit) h1
  cases hq : P.info? elem with
  | none => simp [hq] at hs
  | some i =>
    have hi : i.size = sz := by simpa [hq] using hs
    rw [hcs] at hl
    simp [Builtin.copy_, run_underlying hu, Builtin.lenOf, Builtin.firstCells, sizeOf, typeInfo, hq, hi, ← hn, hl, hst]
theorem run_copy_nilK (dT sT ty elem : TypeId) (g off dLen dCap sCap : Nat) (A : Option Addr) (i : TypeInfo)
    (hu : P.underlying dT = some (.slice elem)) (hs : P.info? elem = some i) :
    (Builtin.copy_ #[dT, sT] ty #[.slice (some ⟨g, off, none⟩) dLen dCap, .slice A 0 sCap]).run P w = .ok (goInt 0) w := by
  have e : Nat.min 0 dLen = 0 := Nat.zero_min _
  have e2 : min 0 dLen = 0 := Nat.zero_min _
  cases A <;> simp [Builtin.copy_, run_underlying hu, Builtin.lenOf, Builtin.firstCells, sizeOf, typeInfo, hs, e, e2, loadCells, loadCellsFrom, storeCells]
end

def flat38 (xs : List S38) : List Value := xs.flatMap enc38
theorem flat38_len (xs : List S38) : (flat38 xs).length = xs.length * 3 := by
  induction xs with
  | nil => rfl
  | cons x xs ih => simp [flat38, enc38] at ih ⊢; omega
theorem flat38_one (xs : List S38) : ∀ v ∈ flat38 xs, v.oneCell' = true := by
  intro v hv
  obtain ⟨x, _, hx⟩ := List.mem_flatMap.1 hv
  exact enc38_one x v hx
theorem reps38 {R : S38 → List Value → Prop} (h : ∀ x, R x (enc38 x)) (xs : List S38) : Reps R 3 xs (flat38 xs) := by
  induction xs with
  | nil => exact Reps.none _ _
  | cons x xs ih =>
    have h1 : Reps R 3 ([] ++ [x]) ([] ++ enc38 x) := (Reps.none R 3).snoc (h x) rfl
    exact Kd.reps_append h1 ih
theorem reps38_eq {w : World} (xs : List S38) : ∀ inner : List Value, Reps (k38.K w) 3 xs inner → inner = flat38 xs := by
  induction xs with
  | nil => intro inner h; have := h.1; simp at this; subst this; rfl
  | cons x xs ih =>
    intro inner h
    have h0 := h.2 0 x rfl
    have h1 := Kd.reps_drop (m := 1) h
    have e0 := k38_open h0
    have e1 := ih _ h1
    simp only [Nat.zero_mul, List.drop_zero, Nat.one_mul] at e0 e1
    have : inner = inner.take 3 ++ inner.drop 3 := (List.take_append_drop 3 inner).symm
    rw [this, e0, e1]
    rfl
theorem flatK38 (xs : List S38) : flatK enc38 3 xs.toArray = (flat38 xs).toArray := by
  have hr : Reps (fun x c => c = enc38 x) 3 xs (flat38 xs) := reps38 (R := fun x c => c = enc38 x) (fun _ => rfl) xs
  refine ext_get! (by simp [flat38_len]) fun t ht => ?_
  have ht' : t < xs.length * 3 := by simpa using ht
  rw [get_flatK _ _ _ _ (by simpa using ht')]
  have hj : t / 3 < xs.length := by omega
  have h2 := hr.2 (t / 3) xs[t / 3] (List.getElem?_eq_getElem hj)
  have hm : t % 3 < 3 := Nat.mod_lt _ (by omega)
  have e1 : (xs.toArray)[t / 3]! = xs[t / 3] := by simp [hj]
  rw [e1, ← h2]
  have hl := flat38_len xs
  have e2 : t / 3 * 3 + t % 3 = t := by omega
  have hlt : t < (flat38 xs).length := by omega
  rw [getElem!_pos _ _ (by simp; omega), getElem!_pos _ _ (by simpa using hlt)]
  simp [e2]

theorem holds38 {w : World} {g : Nat} {xs : List S38} (h : w.heap[g]? = some (.cells (flat38 xs).toArray 38 (0, 0))) : HoldsK enc38 3 w g 0 xs.toArray := by
  unfold HoldsK Holds
  rw [flatK38]
  intro j hj
  refine ⟨?_, by simp [World.frozen?, h]⟩
  rw [Nat.zero_add, blk_cell h j]
  have hj' : j < (flat38 xs).length := by simpa using hj
  simp [hj']

theorem heap_put38 {w : World} {g n : Nat} {os : Array Obj} {cur : Array Value} (d : Array S38) (hb : w.heap[g]? = some (.cells cur 38 (0, 0))) (hs : cur.size = d.size * 3) :
    (sortWorldK enc38 3 w g 0 n d os).heap[g]? = some (.cells (flat38 d.toList).toArray 38 (0, 0)) := by
  have hg : g < w.heap.size := (Array.getElem?_eq_some_iff.1 hb).1
  unfold sortWorldK putRowK
  rw [heap_grow_old _ _ (by simpa using hg)]
  have e : flatK enc38 3 d = (flat38 d.toList).toArray := by have := flatK38 d.toList; simpa using this
  rw [e]
  have e2 : putCells id 0 (flat38 d.toList).toArray cur = (flat38 d.toList).toArray := by
    have hl := flat38_len d.toList
    have hd : d.toList.length = d.size := by simp
    apply Array.ext
    · simp [putCells]; omega
    · intro i h1 h2
      have h2' : i < (flat38 d.toList).length := by simpa using h2
      have h3 : i < cur.size := by omega
      simp [putCells, h2']
  simp [putRow, mapBlock, Sort.ahead, Array.getElem?_modify, hb, onCells, e2]

theorem grownBy_put38 {w : World} {g n : Nat} {os : Array Obj} (d : Array S38) : w.grownBy (sortWorldK enc38 3 w g 0 n d os) (some g) := by
  unfold sortWorldK putRowK
  refine ⟨rfl, rfl, rfl, by simp, fun k hk hne => ?_⟩
  rw [heap_grow_old _ _ (by simpa using hk)]
  have : g ≠ k := fun e => hne (by rw [e])
  simp [putRow, mapBlock, Sort.ahead, Array.getElem?_modify, this]

theorem R38_of {W : World} {base g : Nat} {xs : List S38} (h : W.heap[g]? = some (.cells (flat38 xs).toArray 38 (0, 0))) (hb : base ≤ g) (hm : xs.length ≤ maxLen) :
    Kd.R k38 38 W base (fun _ => True) (.slice (some ⟨g, 0, none⟩) xs.length xs.length) xs :=
  ⟨fun _ _ => trivial, flat38 xs, ⟨flat38_len xs, .inr ⟨g, xs.length, _, rfl, hb, h, Nat.le_refl _, hm, by simp [flat38_len]; rfl, by
    have := flat38_len xs
    exact (List.take_of_length_le (by show _ ≤ xs.length * 3; simp; omega))⟩⟩, reps38 (fun x => k38_mkM _ _ _ x) xs⟩

theorem take38 {W : World} {base g n m : Nat} {xs ys : List S38} (h : W.heap[g]? = some (.cells (flat38 xs).toArray 38 (0, 0))) (hb : base ≤ g) (hn : xs.length = n) (hm : m ≤ n) (hn2 : n < 20) (hy : ys = xs.take m) :
    Kd.R k38 38 W base (fun _ => True) (.slice (some ⟨g, 0, none⟩) m n) ys := by
  subst hn hy
  exact Kd.R_take (R38_of h hb (by unfold maxLen; omega)) hm

theorem info38s : (Try.prog.info? 38).map (·.size) = some 3 := by kernel_rfl
theorem make38 (n : Nat) (h : n < 20) : ∃ cur : Array Value, cur.size = n * 3 ∧ ∀ w : World, (Instr.makeSlice 24 (.int .i64 n) (.int .i64 n)).run Try.prog w = .ok (.slice (some ⟨w.heap.size, 0, none⟩) n n) (w.alloc (.cells cur 38)) := by
  obtain ⟨i, hi, hz⟩ := Option.map_eq_some_iff.1 info38
  simp only [Prod.mk.injEq] at hz
  obtain ⟨h0, h1, h2⟩ := hz
  have hr := fun w => run_make (P := Try.prog) w 24 38 i _ Try.underlying24 hi h0 .i64 .i64 (n : Int) (n : Int) (by omega) (by omega) (by rw [h2]; omega) (by omega)
  rw [h1] at hr
  refine ⟨_, ?_, fun w => hr w⟩
  rw [size_madeCells]
  simp

theorem copy38 (W : World) (g : Nat) (cur : Array Value) (A : Option Addr) (c : Nat) (l : List S38) (hC : Kd.C k38 W A l.length l) (hg : W.heap[g]? = some (.cells cur 38 (0, 0))) (hs : cur.size = l.length * 3) :
    ∃ W1, Sem.run Try.prog (Builtin.copy_ #[24, 24] 3 #[.slice (some ⟨g, 0, none⟩) l.length l.length, .slice A l.length c]) W = .ok (.int .i64 l.length) W1 ∧ W1.heap[g]? = some (.cells (flat38 l).toArray 38 (0, 0)) ∧ (∀ B w0, Below B w0 W → B ≤ g → Below B w0 W1) ∧ W1.heap.size = W.heap.size := by
  obtain ⟨i, hi, hz⟩ := Option.map_eq_some_iff.1 info38
  cases l with
  | nil =>
    have e := run_copy_nilK (P := Try.prog) (w := W) 24 24 3 38 g 0 0 0 c A i Try.underlying24 hi
    have hc : cur = #[] := Array.eq_empty_of_size_eq_zero (by simpa using hs)
    subst hc
    exact ⟨W, e, hg, fun _ _ h _ => h, rfl⟩
  | cons x xs =>
    obtain ⟨ad, rfl, _⟩ := hC.2.2 (by simp)
    obtain ⟨inner, hr, hcell⟩ := ReadsRow.inner_ hC
    obtain rfl := reps38_eq _ _ hr
    have hl := flat38_len (x :: xs)
    have e := run_copy_rowK (P := Try.prog) (w := W) 3 (x :: xs).length 24 24 3 38 g 0 (x :: xs).length (x :: xs).length ad (x :: xs).length c cur 38 (flat38 (x :: xs)) Try.underlying24 info38s hg (Nat.min_self _).symm hl hcell (by omega) (flat38_one _)
    refine ⟨_, e, ?_, fun B w0 hb hB => below_setRow hb hB _, by simp [World.setRow]⟩
    have e2 : (cur.toList.take 0 ++ flat38 (x :: xs) ++ cur.toList.drop (0 + (flat38 (x :: xs)).length)) = flat38 (x :: xs) := by
      rw [List.drop_eq_nil_of_le (by simp; omega)]; simp
    rw [e2]
    simpa using setRow_heap W g _ _ 38 _ hg

theorem lt38 (x y : S38) : ltOf cf38 x y = decide (y.f2 < x.f2) := by
  unfold ltOf cf38 Lib.compareInt
  split
  · rename_i h; simp; exact h
  · rename_i h
    split
    · simp; omega
    · simp; omega
theorem swo38 : SWO (ltOf cf38) := by
  refine ⟨?_, ?_, ?_⟩
  · intro x; rw [lt38]; simp
  · intro x y z; rw [lt38, lt38, lt38]; simp; intros; omega
  · intro x y z; rw [lt38, lt38, lt38]; simp; intros; omega

/-- the attempts that count -/
def sorted38 (l : List S38) : List S38 := (Sort.insertionSort (ltOf cf38) l.toArray 0 l.length).toList
theorem sorted38_len (l : List S38) : (sorted38 l).length = l.length := by
  have h := (insertionSort_holds (lt := ltOf cf38) swo38 l.toArray 0 l.length (Nat.zero_le _) (by simp)).1.1
  simpa [sorted38] using h
def chosenL (kind keep : Int) (l : List S38) : List S38 := if kind = 1 then l.reverse.take 1 else (sorted38 l).take (max 1 keep).toNat
theorem chosen_take {kind keep : Int} {l : List S38} {m : Nat} (hk : ¬ kind = 1) (hm : m = (max 1 keep).toNat ∨ (m = l.length ∧ l.length ≤ (max 1 keep).toNat)) : chosenL kind keep l = (sorted38 l).take m := by
  unfold chosenL
  rw [if_neg hk]
  rcases hm with rfl | ⟨rfl, h⟩
  · rfl
  · have := sorted38_len l
    rw [List.take_of_length_le (by omega), List.take_of_length_le (by omega)]
def attempts_chosen.f (a0_0 a0_1 a0_2 a0_3 : Int) (l1 : List S38) : Option (List S38) := if l1.length < 20 then some (chosenL a0_0 a0_3 l1) else none
end Go.Proofs.Ytdailoccmjeceaa.PAll
