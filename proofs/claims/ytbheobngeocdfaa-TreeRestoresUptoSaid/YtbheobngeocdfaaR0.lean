/- How the arguments of a law come in: what the given data say about the machine's values: trees, rows of trees, rows of numbers; with the bound on their bulk. -/
import Derived.Test.YtbheobngeocdfaaG1
import Derived.Test.YtbheobngeocdfaaRows
import Derived.Deep.Slices
import Derived.ChangeSame
import Derived.WideShapes
import Derived.Deep.Strs
namespace Go.Proofs.Ytbheobngeocdfaa.PAll
open Go.RowKit Go.ChangeShapes Go.WideShapes Go.Proofs.YtbheobngeocdfaaW.PrintWords Go.Proofs.YtbheobngeocdfaaW.PrintLast Go.Proofs.YtbheobngeocdfaaW.PrintMore
set_option linter.unusedVariables false
set_option linter.unusedSimpArgs false

/-- a tree of at most b nodes, with texts of at most b bytes -/
def bulky (b : Nat) (x : S24) : Prop := (pre24 x).length ≤ b ∧ ∀ y ∈ pre24 x, y.f1.size ≤ b
def bulkyL (b : Nat) (l : List S24) : Prop := (preL24 l).length ≤ b ∧ ∀ y ∈ preL24 l, y.f1.size ≤ b
theorem one_le_bulk {H : Type} (d : DataW H) : 1 ≤ Rows.uptoBulk d := by
  cases d with
  | lit l => cases l <;> simp [Rows.uptoBulk]
  | nil => simp [Rows.uptoBulk]
  | ptr d => simp [Rows.uptoBulk]
  | slice elems spare => simp [Rows.uptoBulk]
  | agg parts => simp [Rows.uptoBulk]
  | iface t d => simp [Rows.uptoBulk]
  | map entries => simp [Rows.uptoBulk]
  | held h => simp [Rows.uptoBulk]
theorem length_le_bulk {H : Type} (l : List (DataW H)) : l.length ≤ Rows.uptoBulkAll l := by
  induction l with
  | nil => simp [Rows.uptoBulkAll]
  | cons x r ih => have := one_le_bulk x; simp only [Rows.uptoBulkAll, List.length_cons]; omega
theorem part_le_bulk {H : Type} {d : DataW H} {l : List (DataW H)} (h : d ∈ l) : Rows.uptoBulk d ≤ Rows.uptoBulkAll l := by
  induction l with
  | nil => cases h
  | cons x r ih =>
    simp only [Rows.uptoBulkAll]
    cases List.mem_cons.1 h with
    | inl e => subst e; omega
    | inr e => have := ih e; omega
theorem bulky_list {H : Type} (D : Nat → DataW H) (f : Nat → S24) (L : List Nat) (h : ∀ i ∈ L, bulky (Rows.uptoBulk (D i)) (f i)) : bulkyL (Rows.uptoBulkAll (L.map D)) (L.map f) := by
  induction L with
  | nil => exact ⟨by simp [preL24], by simp [preL24]⟩
  | cons i L ih =>
    obtain ⟨h1, h2⟩ := h i (List.mem_cons_self ..)
    obtain ⟨h3, h4⟩ := ih fun j hj => h j (List.mem_cons_of_mem _ hj)
    simp only [List.map_cons, bulkyL, preL24, Rows.uptoBulkAll, List.length_append, List.mem_append]
    refine ⟨by omega, fun y hy => ?_⟩
    rcases hy with hy | hy
    · have := h2 y hy; omega
    · have := h4 y hy; omega

section
variable {H : Type} {enc : TypeId × Value → H} {W : World} {base : Nat} {spare : Nat → Bool} {held : Bool}
theorem c3 : Try.prog.cellsOf 3 = 1 := by kernel_rfl
theorem c9 : Try.prog.cellsOf 9 = 1 := by kernel_rfl
theorem c22 : Try.prog.cellsOf 22 = 1 := by kernel_rfl
theorem c24 : Try.prog.cellsOf 24 = 5 := by kernel_rfl
theorem len5 {α : Type} : ∀ {l : List α}, l.length = 5 → ∃ a0 a1 a2 a3 a4, l = [a0, a1, a2, a3, a4]
  | [a0, a1, a2, a3, a4], _ => ⟨_, _, _, _, _, rfl⟩
/-- a row of elements that open one by one -/
theorem open_row {α : Type} [Inhabited α] {t e : TypeId} {d : Kd α} {p : DataW H → α → Prop} {B : Nat} (ht : Try.prog.underlying t = some (.slice e)) (hc : Try.prog.cellsOf e = d.sz)
    (he : ∀ fuel cs x, Rows.uptoBulk x.1 < B → DataW.trod enc Try.prog W base spare held fuel e cs = some x → ∃ a, d.K W a cs ∧ p x.1 a) {fuel : Nat} {cs : List Value} {x : DataW H × List MemPlace} (hB : Rows.uptoBulk x.1 ≤ B)
    (h : DataW.trod enc Try.prog W base spare held fuel t cs = some x) :
    ∃ (l : List α) (A : Option Addr) (c : Nat), cs = [.slice A l.length c] ∧ l.length ≤ c ∧ c ≤ maxLen ∧ d.C W A l.length l ∧ (l = [] ∨ ∃ (D : Nat → DataW H) (f : Nat → α) (len : Nat), l = (List.range len).map f ∧ (∀ i, i < len → p (D i) (f i)) ∧ Rows.uptoBulkAll ((List.range len).map D) < Rows.uptoBulk x.1) := by
  rcases Go.Deep.open_slice ht h with ⟨rfl, _⟩ | ⟨a, len, cap, m, n, D, Pl, rfl, hb, hl, hm, hmm, rfl, hx⟩
  · exact ⟨[], none, 0, rfl, Nat.le_refl _, Nat.zero_le _, ⟨rfl, by simp, fun h => absurd h (by simp)⟩, .inl rfl⟩
  · have hlm : len ≤ m := by rw [hmm]; split <;> omega
    have hall : Rows.uptoBulkAll ((List.range len).map D) < Rows.uptoBulk (DataW.slice (H := H) ((List.range len).map D) ((List.range (m - len)).map fun j => D (len + j))) := by simp only [Rows.uptoBulk]; omega
    have hpart : ∀ i, i < len → Rows.uptoBulk (D i) < B := fun i hi => by
      have h1 := part_le_bulk (d := D i) (l := (List.range len).map D) (List.mem_map.2 ⟨i, List.mem_range.2 hi, rfl⟩)
      have h2 : Rows.uptoBulk (DataW.slice (H := H) ((List.range len).map D) ((List.range (m - len)).map fun j => D (len + j))) ≤ B := hB
      omega
    obtain ⟨f, hf⟩ := Go.Deep.choose_lt (n := len) (p := fun i (a' : α) => p (D i) a' ∧ ∃ c, c.length = d.sz ∧ d.K W a' c ∧ ∀ j u, c[j]? = some u → W.cell? (a.add (i * d.sz + j)) = some u) (fun i hi => by
      obtain ⟨cs', h1, h2⟩ := hx i (by omega)
      obtain ⟨a', hk, hw⟩ := he _ _ _ (hpart i hi) h2
      obtain ⟨_, hlen, hcell⟩ := World.cells?_some h1
      refine ⟨a', hw, cs', d.K_len hk, hk, fun j u hj => ?_⟩
      have hj2 := (List.getElem?_eq_some_iff.1 hj).1
      have h3 := hcell j (by omega)
      rw [hj] at h3
      rw [← h3, hc, Addr.add_add])
    have hL : ((List.range len).map f).length = len := by simp
    refine ⟨(List.range len).map f, some a, cap, by rw [hL], by omega, hm, ?_, .inr ⟨D, f, len, rfl, fun i hi => (hf i hi).1, hall⟩⟩
    rw [hL]
    refine ⟨hL, by have : maxLen ≤ 9223372036854775807 := by decide
                   omega, fun _ => ⟨a, rfl, fun j p hj => ?_⟩⟩
    have hj2 := (List.getElem?_eq_some_iff.1 hj).1
    rw [hL] at hj2
    have e : p = f j := by
      rw [List.getElem?_map, List.getElem?_range hj2] at hj
      exact (Option.some.inj hj).symm
    subst e
    exact (hf j hj2).2
instance : Inhabited S24 := ⟨z24⟩
set_option maxRecDepth 100000 in
theorem opens24 : ∀ (B : Nat) fuel cs (x : DataW H × List MemPlace), Rows.uptoBulk x.1 ≤ B → DataW.trod enc Try.prog W base spare held fuel 24 cs = some x → ∃ a, k24.K W a cs ∧ bulky (Rows.uptoBulk x.1) a := by
  intro B
  induction B with
  | zero => intro fuel cs x hx; have := one_le_bulk x.1; omega
  | succ B ih =>
    intro fuel cs x hB h
    obtain ⟨xs, n, _, rfl, hl, hlen, hf⟩ := DataW.trod_struct Try.underlying24 h
    rw [c24] at hl
    have hlen : xs.length = 5 := hlen
    obtain ⟨x0, x1, x2, x3, x4, rfl⟩ : ∃ x0 x1 x2 x3 x4, xs = [x0, x1, x2, x3, x4] := len5 hlen
    obtain ⟨v0, v1, v2, v3, v4, rfl⟩ : ∃ v0 v1 v2 v3 v4, cs = [v0, v1, v2, v3, v4] := len5 hl
    have h0 : DataW.trod enc Try.prog W base spare held n 3 [v0] = some x0 := by have := hf 0 _ rfl; simpa [c3] using this
    have h1 : DataW.trod enc Try.prog W base spare held n 9 [v1] = some x1 := by have := hf 1 _ rfl; simpa [c9] using this
    have h2 : DataW.trod enc Try.prog W base spare held n 3 [v2] = some x2 := by have := hf 2 _ rfl; simpa [c3] using this
    have h3 : DataW.trod enc Try.prog W base spare held n 3 [v3] = some x3 := by have := hf 3 _ rfl; simpa [c3] using this
    have h4 : DataW.trod enc Try.prog W base spare held n 22 [v4] = some x4 := by have := hf 4 _ rfl; simpa [c22] using this
    obtain ⟨n0, e0, rfl, _⟩ := DataW.trod_int (k := .i64) (by kernel_rfl) h0
    obtain ⟨s, e1, rfl, _⟩ := DataW.trod_string (by kernel_rfl) h1
    obtain ⟨n2, e2, rfl, _⟩ := DataW.trod_int (k := .i64) (by kernel_rfl) h2
    obtain ⟨n3, e3, rfl, _⟩ := DataW.trod_int (k := .i64) (by kernel_rfl) h3
    have hb : Rows.uptoBulk x4.1 ≤ B := by
      have hB' : Rows.uptoBulk (DataW.agg (H := H) ([(DataW.lit (.int .i64 n0), []), (DataW.lit (.string s.data.toList), []), (DataW.lit (.int .i64 n2), []), (DataW.lit (.int .i64 n3), []), x4].map (fun y : DataW H × List MemPlace => y.1))) ≤ B + 1 := hB
      simp only [List.map_cons, List.map_nil, Rows.uptoBulk, Rows.uptoBulkAll] at hB'
      omega
    obtain ⟨l, A, c, e4, hlc, hcm, hC, hrow⟩ := open_row (d := k24) (p := fun d a => bulky (Rows.uptoBulk d) a) (B := Rows.uptoBulk x4.1) Try.underlying22 c24 (fun fuel cs x hx h => ih fuel cs x (by omega) h) (Nat.le_refl _) h4
    obtain rfl := List.head_eq_of_cons_eq e0
    obtain rfl := List.head_eq_of_cons_eq e1
    obtain rfl := List.head_eq_of_cons_eq e2
    obtain rfl := List.head_eq_of_cons_eq e3
    obtain rfl := List.head_eq_of_cons_eq e4
    refine ⟨⟨n0, s, n2, n3, l⟩, k24_mk W ⟨n0, s, n2, n3, l⟩ hlc hC, ?_⟩
    have hbl : bulkyL (Rows.uptoBulk x4.1) l := by
      rcases hrow with rfl | ⟨D, f, len, rfl, hp, hlt⟩
      · exact ⟨by simp [preL24], by simp [preL24]⟩
      · have := bulky_list D f (List.range len) fun i hi => hp i (List.mem_range.1 hi)
        exact ⟨by have := this.1; omega, fun y hy => by have := this.2 y hy; omega⟩
    have hs : s.data.toList.length = s.size := by rw [Array.length_toList]; rfl
    show bulky (Rows.uptoBulk (DataW.agg (H := H) ([(DataW.lit (.int .i64 n0), []), (DataW.lit (.string s.data.toList), []), (DataW.lit (.int .i64 n2), []), (DataW.lit (.int .i64 n3), []), x4].map (fun y : DataW H × List MemPlace => y.1)))) _
    simp only [List.map_cons, List.map_nil, Rows.uptoBulk, Rows.uptoBulkAll, hs]
    rw [bulky, pre24_eq]
    refine ⟨by simp only [List.length_cons]; have := hbl.1; omega, fun y hy => ?_⟩
    rcases List.mem_cons.1 hy with rfl | hy
    · show s.size ≤ _; omega
    · have := hbl.2 y hy; omega
set_option maxRecDepth 100000 in
theorem param24 {r : Reach} {b0 : Nat} {v : Value} {d : DataW H} {p : List MemPlace} (hv : Value.okWide Try.prog W r b0 24 v) (h : DataW.Trod enc Try.prog W base spare held 24 v d p) :
    ∃ (x : S24) (A : Option Addr) (c : Nat), v = .agg #[.int .i64 x.f0, .string x.f1, .int .i64 x.f2, .int .i64 x.f3, .slice A x.f4.length c] ∧ x.f4.length ≤ c ∧ k24.C W A x.f4.length x.f4 ∧ bulky (Rows.uptoBulk d) x := by
  obtain ⟨cs, rfl, hsz⟩ := okWide_struct Try.underlying24 hv
  obtain ⟨fuel, hf⟩ := h
  obtain ⟨x, hk, hw⟩ := opens24 _ _ _ _ (Nat.le_refl _) hf
  obtain ⟨A, c, e, hl, hC⟩ := k24_open hk
  refine ⟨x, A, c, ?_, hl, hC, hw⟩
  have e2 : cs.toList = [.int .i64 x.f0, .string x.f1, .int .i64 x.f2, .int .i64 x.f3, .slice A x.f4.length c] := by simpa [Value.cells] using e
  rw [← e2]
set_option maxRecDepth 100000 in
theorem param22 {r : Reach} {b0 : Nat} {v : Value} {d : DataW H} {p : List MemPlace} (hv : Value.okWide Try.prog W r b0 22 v) (h : DataW.Trod enc Try.prog W base spare held 22 v d p) :
    ∃ (l : List S24) (A : Option Addr) (c : Nat), v = .slice A l.length c ∧ l.length ≤ c ∧ k24.C W A l.length l ∧ bulkyL (Rows.uptoBulk d) l := by
  obtain ⟨a, len, cap, rfl⟩ := okWide_slice Try.underlying22 hv
  obtain ⟨fuel, hf⟩ := h
  obtain ⟨l, A, c, e4, hlc, hcm, hC, hrow⟩ := open_row (d := k24) (p := fun d a => bulky (Rows.uptoBulk d) a) Try.underlying22 c24 (fun fuel cs x hx h => opens24 _ fuel cs x (Nat.le_refl _) h) (Nat.le_refl _) hf
  have e2 : [Value.slice a len cap] = [Value.slice A l.length c] := by simpa [Value.cells] using e4
  refine ⟨l, A, c, List.head_eq_of_cons_eq e2, hlc, hC, ?_⟩
  rcases hrow with rfl | ⟨D, f, n, rfl, hp, hlt⟩
  · exact ⟨by simp [preL24], by simp [preL24]⟩
  · have hlt : Rows.uptoBulkAll (List.map D (List.range n)) < Rows.uptoBulk d := hlt
    have := bulky_list D f (List.range n) fun i hi => hp i (List.mem_range.1 hi)
    exact ⟨by have := this.1; omega, fun y hy => by have := this.2 y hy; omega⟩
set_option maxRecDepth 100000 in
theorem param33 {r : Reach} {b0 : Nat} {v : Value} {d : DataW H} {p : List MemPlace} (hv : Value.okWide Try.prog W r b0 33 v) (h : DataW.Trod enc Try.prog W base spare held 33 v d p) :
    ∃ (l : List Int) (A : Option Addr) (c : Nat), v = .slice A l.length c ∧ l.length ≤ c ∧ (Kd.int .i64).C W A l.length l ∧ l.length ≤ Rows.uptoBulk d := by
  obtain ⟨a, len, cap, rfl⟩ := okWide_slice Try.underlying33 hv
  obtain ⟨fuel, hf⟩ := h
  obtain ⟨l, A, c, e4, hlc, hcm, hC, hrow⟩ := open_row (d := Kd.int .i64) (p := fun _ _ => True) Try.underlying33 c3 (fun fuel cs x hx h => by
    obtain ⟨n, rfl, _, hw⟩ := DataW.trod_int (k := .i64) (by kernel_rfl) h
    exact ⟨n, rfl, trivial⟩) (Nat.le_refl _) hf
  have e2 : [Value.slice a len cap] = [Value.slice A l.length c] := by simpa [Value.cells] using e4
  refine ⟨l, A, c, List.head_eq_of_cons_eq e2, hlc, hC, ?_⟩
  rcases hrow with rfl | ⟨D, f, n, rfl, hp, hlt⟩
  · simp
  · have hlt : Rows.uptoBulkAll (List.map D (List.range n)) < Rows.uptoBulk d := hlt
    have := length_le_bulk (List.map D (List.range n))
    simp at this ⊢
    omega
end
end Go.Proofs.Ytbheobngeocdfaa.PAll
