/- How the arguments of a law come in: what the given data say about the machine's values, for slices of structs. -/
import Derived.Test.YtdailoccmjeceaaPAllx0
import Derived.Deep.Slices
import Derived.ChangeSame
import Derived.WideShapes
import Derived.Deep.Strs
namespace Go.Proofs.Ytdailoccmjeceaa.PAll
open Go.RowKit Go.ChangeShapes Go.WideShapes Go.Proofs.YtdailoccmjeceaaW.PrintWords Go.Proofs.YtdailoccmjeceaaW.PrintLast Go.Proofs.YtdailoccmjeceaaW.PrintMore
set_option linter.unusedVariables false
set_option linter.unusedSimpArgs false
def Opens {H : Type} (enc : TypeId × Value → H) (P : Program) (W : World) (base : Nat) (spare : Nat → Bool) (held : Bool) {α : Type} (t : TypeId) (d : Kd α) (wf : α → Prop) : Prop :=
  ∀ fuel cs x, DataW.trod enc P W base spare held fuel t cs = some x → ∃ a, d.K W a cs ∧ wf a
section
variable {H : Type} {enc : TypeId × Value → H} {P : Program} {W : World} {base : Nat} {spare : Nat → Bool} {held : Bool}
theorem opens_int {t : TypeId} {k : IntKind} (ht : P.underlying t = some (.int k)) : Opens enc P W base spare held t (Kd.int k) (fun n => (Lit.int k n).wf = true) := by
  intro fuel cs x h
  obtain ⟨n, rfl, _, hw⟩ := DataW.trod_int ht h
  exact ⟨n, rfl, hw⟩
theorem opens_bool {t : TypeId} (ht : P.underlying t = some .bool) : Opens enc P W base spare held t Kd.bool (fun _ => True) := by
  intro fuel cs x h
  obtain ⟨n, rfl, _⟩ := DataW.trod_bool ht h
  exact ⟨n, rfl, trivial⟩
theorem opens_string {t : TypeId} (ht : P.underlying t = some .string) : Opens enc P W base spare held t Kd.string (fun s => s.size ≤ maxLen) := by
  intro fuel cs x h
  obtain ⟨n, rfl, _, hw⟩ := DataW.trod_string ht h
  exact ⟨n, rfl, hw⟩
theorem open_slice_K {α : Type} [Inhabited α] {t e : TypeId} {d : Kd α} {wf : α → Prop} (ht : P.underlying t = some (.slice e)) (hc : P.cellsOf e = d.sz) (he : Opens enc P W base spare held e d wf) {fuel : Nat} {cs : List Value} {x : DataW H × List MemPlace} (h : DataW.trod enc P W base spare held fuel t cs = some x) :
    ∃ (l : List α) (A : Option Addr) (c : Nat), cs = [.slice A l.length c] ∧ l.length ≤ c ∧ c ≤ maxLen ∧ d.C W A l.length l ∧ ∀ a ∈ l, wf a := by
  rcases Go.Deep.open_slice ht h with ⟨rfl, _⟩ | ⟨a, len, cap, m, n, D, Pl, rfl, hb, hl, hm, hmm, rfl, hx⟩
  · exact ⟨[], none, 0, rfl, Nat.le_refl _, Nat.zero_le _, ⟨rfl, by simp, fun h => absurd h (by simp)⟩, fun a ha => absurd ha (by simp)⟩
  · have hlm : len ≤ m := by rw [hmm]; split <;> omega
    obtain ⟨f, hf⟩ := Go.Deep.choose_lt (n := len) (p := fun i (a' : α) => wf a' ∧ ∃ c, c.length = d.sz ∧ d.K W a' c ∧ ∀ j u, c[j]? = some u → W.cell? (a.add (i * d.sz + j)) = some u) (fun i hi => by
      obtain ⟨cs', h1, h2⟩ := hx i (by omega)
      obtain ⟨a', hk, hw⟩ := he _ _ _ h2
      obtain ⟨_, hlen, hcell⟩ := World.cells?_some h1
      refine ⟨a', hw, cs', d.K_len hk, hk, fun j u hj => ?_⟩
      have hj2 := (List.getElem?_eq_some_iff.1 hj).1
      have h3 := hcell j (by omega)
      rw [hj] at h3
      rw [← h3, hc, Addr.add_add])
    have hL : ((List.range len).map f).length = len := by simp
    refine ⟨(List.range len).map f, some a, cap, by rw [hL], by omega, hm, ?_, ?_⟩
    · rw [hL]
      refine ⟨hL, by have : maxLen ≤ 9223372036854775807 := by decide
                     omega, fun _ => ⟨a, rfl, fun j p hj => ?_⟩⟩
      have hj2 := (List.getElem?_eq_some_iff.1 hj).1
      rw [hL] at hj2
      have e : p = f j := by
        rw [List.getElem?_map, List.getElem?_range hj2] at hj
        exact (Option.some.inj hj).symm
      subst e
      exact (hf j hj2).2
    · intro p hp
      obtain ⟨j, hj, rfl⟩ := List.mem_map.1 hp
      exact (hf j (List.mem_range.1 hj)).1
theorem opens_slice {α : Type} [Inhabited α] {t e : TypeId} {d : Kd α} {wf : α → Prop} (q : Nat) (ht : P.underlying t = some (.slice e)) (hc : P.cellsOf e = d.sz) (he : Opens enc P W base spare held e d wf) :
    Opens enc P W base spare held t (Kd.slice q d) (fun l => l.length ≤ maxLen ∧ ∀ a ∈ l, wf a) := by
  intro fuel cs x h
  obtain ⟨l, A, c, rfl, hl, hm, hC, hw⟩ := open_slice_K ht hc he h
  exact ⟨l, ⟨A, c, rfl, hl, hC⟩, Nat.le_trans hl hm, hw⟩
end
section
variable {H : Type} {enc : TypeId × Value → H} {W : World} {base : Nat} {spare : Nat → Bool} {held : Bool}
instance : Inhabited S38 := ⟨z38⟩
instance : Inhabited S23 := ⟨z23⟩
theorem len2 {α : Type} : ∀ {l : List α}, l.length = 2 → ∃ a0 a1, l = [a0, a1]
  | [a0, a1], _ => ⟨_, _, rfl⟩
theorem len3 {α : Type} : ∀ {l : List α}, l.length = 3 → ∃ a0 a1 a2, l = [a0, a1, a2]
  | [a0, a1, a2], _ => ⟨_, _, _, rfl⟩
theorem len4 {α : Type} : ∀ {l : List α}, l.length = 4 → ∃ a0 a1 a2 a3, l = [a0, a1, a2, a3]
  | [a0, a1, a2, a3], _ => ⟨_, _, _, _, rfl⟩
theorem len6 {α : Type} : ∀ {l : List α}, l.length = 6 → ∃ a0 a1 a2 a3 a4 a5, l = [a0, a1, a2, a3, a4, a5]
  | [a0, a1, a2, a3, a4, a5], _ => ⟨_, _, _, _, _, _, rfl⟩
theorem len8 {α : Type} : ∀ {l : List α}, l.length = 8 → ∃ a0 a1 a2 a3 a4 a5 a6 a7, l = [a0, a1, a2, a3, a4, a5, a6, a7]
  | [a0, a1, a2, a3, a4, a5, a6, a7], _ => ⟨_, _, _, _, _, _, _, _, rfl⟩
def wfI (n : Int) : Prop := (Lit.int .i64 n).wf = true
theorem wf_le {n : Int} (h : wfI n) : n ≤ 9223372036854775807 := by
  have h2 : (decide (IntKind.i64.min ≤ n) && decide (n ≤ IntKind.i64.max)) = true := h
  rw [Bool.and_eq_true] at h2
  exact Int.le_trans (of_decide_eq_true h2.2) (by decide)
theorem cel3 : Try.prog.cellsOf 3 = 1 := by kernel_rfl
def wf38 (x : S38) : Prop := wfI x.f0 ∧ wfI x.f1 ∧ wfI x.f2
theorem cc38 : Try.prog.cellsOf 38 = 3 := by kernel_rfl
theorem opens38 : Opens enc Try.prog W base spare held 38 k38 wf38 := by
  intro fuel cs x h
  obtain ⟨xs, n, _, rfl, hl, hlen, hf⟩ := DataW.trod_struct Try.underlying38 h
  rw [cc38] at hl
  have hlen : xs.length = 3 := hlen
  obtain ⟨x0, x1, x2, rfl⟩ : ∃ x0 x1 x2, xs = [x0, x1, x2] := len3 hlen
  obtain ⟨c0, c1, c2, rfl⟩ : ∃ c0 c1 c2, cs = [c0, c1, c2] := len3 hl
  have h0 : DataW.trod enc Try.prog W base spare held n 3 [c0] = some x0 := by have := hf 0 _ rfl; simpa [cel3] using this
  have h1 : DataW.trod enc Try.prog W base spare held n 3 [c1] = some x1 := by have := hf 1 _ rfl; simpa [cel3] using this
  have h2 : DataW.trod enc Try.prog W base spare held n 3 [c2] = some x2 := by have := hf 2 _ rfl; simpa [cel3] using this
  obtain ⟨n0, e0, w0⟩ := opens_int (k := .i64) (by kernel_rfl) _ _ _ h0
  obtain ⟨n1, e1, w1⟩ := opens_int (k := .i64) (by kernel_rfl) _ _ _ h1
  obtain ⟨n2, e2, w2⟩ := opens_int (k := .i64) (by kernel_rfl) _ _ _ h2
  have e0' : [c0] = [Value.int .i64 n0] := e0
  have e1' : [c1] = [Value.int .i64 n1] := e1
  have e2' : [c2] = [Value.int .i64 n2] := e2
  obtain rfl := List.head_eq_of_cons_eq e0'
  obtain rfl := List.head_eq_of_cons_eq e1'
  obtain rfl := List.head_eq_of_cons_eq e2'
  exact ⟨⟨n0, n1, n2⟩, k38_mk W _, w0, w1, w2⟩
def wf23 (x : S23) : Prop := wfI x.f0 ∧ wfI x.f1 ∧ wfI x.f2 ∧ wfI x.f3
theorem cc23 : Try.prog.cellsOf 23 = 4 := by kernel_rfl
theorem opens23 : Opens enc Try.prog W base spare held 23 k23 wf23 := by
  intro fuel cs x h
  obtain ⟨xs, n, _, rfl, hl, hlen, hf⟩ := DataW.trod_struct Try.underlying23 h
  rw [cc23] at hl
  have hlen : xs.length = 4 := hlen
  obtain ⟨x0, x1, x2, x3, rfl⟩ : ∃ x0 x1 x2 x3, xs = [x0, x1, x2, x3] := len4 hlen
  obtain ⟨c0, c1, c2, c3, rfl⟩ : ∃ c0 c1 c2 c3, cs = [c0, c1, c2, c3] := len4 hl
  have h0 : DataW.trod enc Try.prog W base spare held n 3 [c0] = some x0 := by have := hf 0 _ rfl; simpa [cel3] using this
  have h1 : DataW.trod enc Try.prog W base spare held n 3 [c1] = some x1 := by have := hf 1 _ rfl; simpa [cel3] using this
  have h2 : DataW.trod enc Try.prog W base spare held n 3 [c2] = some x2 := by have := hf 2 _ rfl; simpa [cel3] using this
  have h3 : DataW.trod enc Try.prog W base spare held n 3 [c3] = some x3 := by have := hf 3 _ rfl; simpa [cel3] using this
  obtain ⟨n0, e0, w0⟩ := opens_int (k := .i64) (by kernel_rfl) _ _ _ h0
  obtain ⟨n1, e1, w1⟩ := opens_int (k := .i64) (by kernel_rfl) _ _ _ h1
  obtain ⟨n2, e2, w2⟩ := opens_int (k := .i64) (by kernel_rfl) _ _ _ h2
  obtain ⟨n3, e3, w3⟩ := opens_int (k := .i64) (by kernel_rfl) _ _ _ h3
  have e0' : [c0] = [Value.int .i64 n0] := e0
  have e1' : [c1] = [Value.int .i64 n1] := e1
  have e2' : [c2] = [Value.int .i64 n2] := e2
  have e3' : [c3] = [Value.int .i64 n3] := e3
  obtain rfl := List.head_eq_of_cons_eq e0'
  obtain rfl := List.head_eq_of_cons_eq e1'
  obtain rfl := List.head_eq_of_cons_eq e2'
  obtain rfl := List.head_eq_of_cons_eq e3'
  exact ⟨⟨n0, n1, n2, n3⟩, k23_mk W _, w0, w1, w2, w3⟩
set_option maxRecDepth 100000 in
theorem param23 {r : Reach} {b0 : Nat} {v : Value} {d : DataW H} {p : List MemPlace} (hv : Value.okWide Try.prog W r b0 23 v) (h : DataW.Trod enc Try.prog W base spare held 23 v d p) :
    ∃ x : S23, v = .agg #[.int .i64 x.f0, .int .i64 x.f1, .int .i64 x.f2, .int .i64 x.f3] ∧ wf23 x := by
  obtain ⟨cs, rfl, hsz⟩ := okWide_struct Try.underlying23 hv
  obtain ⟨fuel, hf⟩ := h
  obtain ⟨x, hk, hw⟩ := opens23 _ _ _ hf
  refine ⟨x, ?_, hw⟩
  have e := k23_open hk
  have e2 : cs.toList = [.int .i64 x.f0, .int .i64 x.f1, .int .i64 x.f2, .int .i64 x.f3] := by simpa [Value.cells] using e
  rw [← e2]
set_option maxRecDepth 100000 in
theorem param_int {k : IntKind} {t : TypeId} {r : Reach} {b0 : Nat} {v : Value} {d : DataW H} {p : List MemPlace} (ht : Try.prog.underlying t = some (.int k)) (hv : Value.okWide Try.prog W r b0 t v) (h : DataW.Trod enc Try.prog W base spare held t v d p) :
    ∃ n : Int, v = .int k n ∧ (Lit.int k n).wf = true := by
  obtain ⟨n, rfl, _, _, hw⟩ := open_int ht hv h
  exact ⟨n, rfl, hw⟩
set_option maxRecDepth 100000 in
theorem param_slice {α : Type} [Inhabited α] {t e : TypeId} {k : Kd α} {wf : α → Prop} {r : Reach} {b0 : Nat} {v : Value} {d : DataW H} {p : List MemPlace} (ht : Try.prog.underlying t = some (.slice e)) (hc : Try.prog.cellsOf e = k.sz) (he : Opens enc Try.prog W base spare held e k wf)
    (hv : Value.okWide Try.prog W r b0 t v) (h : DataW.Trod enc Try.prog W base spare held t v d p) :
    ∃ (l : List α) (A : Option Addr) (c : Nat), v = .slice A l.length c ∧ l.length ≤ c ∧ c ≤ maxLen ∧ k.C W A l.length l ∧ ∀ a ∈ l, wf a := by
  obtain ⟨a, len, cap, rfl⟩ := okWide_slice ht hv
  obtain ⟨fuel, hf⟩ := h
  obtain ⟨l, A, c, hcs, hl, hm, hC, hw⟩ := open_slice_K ht hc he hf
  have e2 : [Value.slice a len cap] = [Value.slice A l.length c] := by simpa [Value.cells] using hcs
  exact ⟨l, _, _, List.head_eq_of_cons_eq e2, hl, hm, hC, hw⟩
end
end Go.Proofs.Ytdailoccmjeceaa.PAll
