/- Region 4 of shapes: the table, the invariant, the steps (written by gen_h14.py). shapes. A look-up among the shapes; List. fits. -/
import Derived.Test.YtbheobngeocdfaaG2
import Derived.Laws.EntriesVeiled
namespace Go.Proofs.Ytbheobngeocdfaa.PAll
open Go.RowKit Go.Proofs.YtbheobngeocdfaaW.PrintWords Go.Proofs.YtbheobngeocdfaaW.PrintLast Go.Proofs.YtbheobngeocdfaaW.PrintMore
set_option linter.unusedVariables false
set_option linter.unusedSimpArgs false
set_option maxRecDepth 100000

def specL : List Sp := [
  .map,
  .ptr .name,
  .test (.one [11]),
  .test .expr,
  .test (.opt .type),
  .ptr (.word [wInt, wBool]),
  .other,
  .other,
  .other,
  .other,
  .other,
  .map,
  .shape ⟨.empty, [], none, 0⟩,
  .ints [3, 5],
  .test (.one [3, 5]),
  .shape ⟨.empty, [], (some (.one [3, 5])), 0⟩,
  .text .name,
  .ints [4],
  .test (.one [4]),
  .shape ⟨.name, [], (some (.one [4])), 1⟩,
  .text .name,
  .ints [9],
  .test (.one [9]),
  .tests [(.one [9])],
  .shape ⟨.name, [(.one [9])], none, 0⟩,
  .text .name,
  .ints [6],
  .test (.one [6]),
  .test (.opt .type),
  .test (.one [11]),
  .tests [(.one [6]), (.opt .type), (.one [11])],
  .shape ⟨.name, [(.one [6]), (.opt .type), (.one [11])], none, 0⟩,
  .ints [7, 8],
  .test (.one [7, 8]),
  .shape ⟨.empty, [], (some (.one [7, 8])), 0⟩,
  .text .name,
  .test (.opt .type),
  .tests [(.opt .type)],
  .shape ⟨.name, [(.opt .type)], none, 0⟩,
  .text .name,
  .test (.opt .type),
  .tests [(.opt .type)],
  .shape ⟨.name, [(.opt .type)], none, 0⟩,
  .text .scalar,
  .shape ⟨.scalar, [], none, 0⟩,
  .shape ⟨.number, [], none, 0⟩,
  .shape ⟨.empty, [], (some .stmt), 0⟩,
  .text .name,
  .test (.opt .type),
  .test .expr,
  .tests [(.opt .type), .expr],
  .shape ⟨.name, [(.opt .type), .expr], none, 0⟩,
  .test .expr,
  .tests [.place, .expr],
  .shape ⟨.empty, [.place, .expr], none, 0⟩,
  .test .expr,
  .test (.one [11]),
  .ints [11, 14],
  .test (.one [11, 14]),
  .test (.opt (.one [11, 14])),
  .tests [.expr, (.one [11]), (.opt (.one [11, 14]))],
  .shape ⟨.empty, [.expr, (.one [11]), (.opt (.one [11, 14]))], none, 0⟩,
  .test .expr,
  .test (.one [11]),
  .tests [.expr, (.one [11])],
  .shape ⟨.empty, [.expr, (.one [11])], none, 0⟩,
  .text .name,
  .test .expr,
  .test .expr,
  .test (.one [11]),
  .tests [.expr, .expr, (.one [11])],
  .shape ⟨.name, [.expr, .expr, (.one [11])], none, 0⟩,
  .test .expr,
  .test (.opt .expr),
  .tests [(.opt .expr)],
  .shape ⟨.empty, [(.opt .expr)], none, 0⟩,
  .test .expr,
  .tests [.expr],
  .shape ⟨.empty, [.expr], none, 0⟩,
  .text .name,
  .test .expr,
  .shape ⟨.name, [], (some .expr), 0⟩,
  .text .name,
  .shape ⟨.name, [], none, 0⟩,
  .ints [20],
  .test (.one [20]),
  .test .expr,
  .tests [(.one [20]), .expr],
  .shape ⟨.empty, [(.one [20]), .expr], none, 0⟩,
  .text .name,
  .ints [20],
  .test (.one [20]),
  .tests [(.one [20])],
  .shape ⟨.name, [(.one [20])], none, 0⟩,
  .ints [20],
  .test (.one [20]),
  .tests [(.one [20])],
  .shape ⟨.empty, [(.one [20])], none, 0⟩,
  .shape ⟨.number, [], none, 0⟩,
  .strs [(⟨#[116, 114, 117, 101]⟩ : ByteArray), (⟨#[102, 97, 108, 115, 101]⟩ : ByteArray)],
  .text (.word [(⟨#[116, 114, 117, 101]⟩ : ByteArray), (⟨#[102, 97, 108, 115, 101]⟩ : ByteArray)]),
  .shape ⟨(.word [(⟨#[116, 114, 117, 101]⟩ : ByteArray), (⟨#[102, 97, 108, 115, 101]⟩ : ByteArray)]), [], none, 0⟩,
  .test .expr,
  .shape ⟨.empty, [], (some .expr), 1⟩,
  .text .name,
  .test .expr,
  .shape ⟨.name, [], (some .expr), 0⟩,
  .strs [(⟨#[45]⟩ : ByteArray), (⟨#[110, 111, 116]⟩ : ByteArray)],
  .text (.word [(⟨#[45]⟩ : ByteArray), (⟨#[110, 111, 116]⟩ : ByteArray)]),
  .test .expr,
  .tests [.expr],
  .shape ⟨(.word [(⟨#[45]⟩ : ByteArray), (⟨#[110, 111, 116]⟩ : ByteArray)]), [.expr], none, 0⟩,
  .strs [(⟨#[111, 114]⟩ : ByteArray), (⟨#[97, 110, 100]⟩ : ByteArray), (⟨#[61, 61]⟩ : ByteArray), (⟨#[33, 61]⟩ : ByteArray), (⟨#[60]⟩ : ByteArray), (⟨#[60, 61]⟩ : ByteArray), (⟨#[62]⟩ : ByteArray), (⟨#[62, 61]⟩ : ByteArray), (⟨#[43]⟩ : ByteArray), (⟨#[45]⟩ : ByteArray), (⟨#[42]⟩ : ByteArray), (⟨#[47]⟩ : ByteArray), (⟨#[37]⟩ : ByteArray)],
  .text (.word [(⟨#[111, 114]⟩ : ByteArray), (⟨#[97, 110, 100]⟩ : ByteArray), (⟨#[61, 61]⟩ : ByteArray), (⟨#[33, 61]⟩ : ByteArray), (⟨#[60]⟩ : ByteArray), (⟨#[60, 61]⟩ : ByteArray), (⟨#[62]⟩ : ByteArray), (⟨#[62, 61]⟩ : ByteArray), (⟨#[43]⟩ : ByteArray), (⟨#[45]⟩ : ByteArray), (⟨#[42]⟩ : ByteArray), (⟨#[47]⟩ : ByteArray), (⟨#[37]⟩ : ByteArray)]),
  .test .expr,
  .test .expr,
  .tests [.expr, .expr],
  .shape ⟨(.word [(⟨#[111, 114]⟩ : ByteArray), (⟨#[97, 110, 100]⟩ : ByteArray), (⟨#[61, 61]⟩ : ByteArray), (⟨#[33, 61]⟩ : ByteArray), (⟨#[60]⟩ : ByteArray), (⟨#[60, 61]⟩ : ByteArray), (⟨#[62]⟩ : ByteArray), (⟨#[62, 61]⟩ : ByteArray), (⟨#[43]⟩ : ByteArray), (⟨#[45]⟩ : ByteArray), (⟨#[42]⟩ : ByteArray), (⟨#[47]⟩ : ByteArray), (⟨#[37]⟩ : ByteArray)]), [.expr, .expr], none, 0⟩,
  .map]
def spec (t : Nat) : Sp := specL.getD t .other
/-- the insertions: the operation, the key, the shape -/
def insL : List (Nat × Int × Sh) := [
  (2, 0, ⟨.empty, [], none, 0⟩),
  (6, 2, ⟨.empty, [], (some (.one [3, 5])), 0⟩),
  (11, 3, ⟨.name, [], (some (.one [4])), 1⟩),
  (17, 4, ⟨.name, [(.one [9])], none, 0⟩),
  (25, 5, ⟨.name, [(.one [6]), (.opt .type), (.one [11])], none, 0⟩),
  (29, 6, ⟨.empty, [], (some (.one [7, 8])), 0⟩),
  (34, 7, ⟨.name, [(.opt .type)], none, 0⟩),
  (39, 8, ⟨.name, [(.opt .type)], none, 0⟩),
  (42, 9, ⟨.scalar, [], none, 0⟩),
  (44, 10, ⟨.number, [], none, 0⟩),
  (46, 11, ⟨.empty, [], (some .stmt), 0⟩),
  (52, 12, ⟨.name, [(.opt .type), .expr], none, 0⟩),
  (56, 13, ⟨.empty, [.place, .expr], none, 0⟩),
  (64, 14, ⟨.empty, [.expr, (.one [11]), (.opt (.one [11, 14]))], none, 0⟩),
  (69, 15, ⟨.empty, [.expr, (.one [11])], none, 0⟩),
  (76, 16, ⟨.name, [.expr, .expr, (.one [11])], none, 0⟩),
  (81, 17, ⟨.empty, [(.opt .expr)], none, 0⟩),
  (85, 18, ⟨.empty, [.expr], none, 0⟩),
  (89, 19, ⟨.name, [], (some .expr), 0⟩),
  (92, 20, ⟨.name, [], none, 0⟩),
  (98, 21, ⟨.empty, [(.one [20]), .expr], none, 0⟩),
  (104, 22, ⟨.name, [(.one [20])], none, 0⟩),
  (109, 23, ⟨.empty, [(.one [20])], none, 0⟩),
  (111, 24, ⟨.number, [], none, 0⟩),
  (115, 25, ⟨(.word [(⟨#[116, 114, 117, 101]⟩ : ByteArray), (⟨#[102, 97, 108, 115, 101]⟩ : ByteArray)]), [], none, 0⟩),
  (118, 26, ⟨.empty, [], (some .expr), 1⟩),
  (122, 27, ⟨.name, [], (some .expr), 0⟩),
  (128, 28, ⟨(.word [(⟨#[45]⟩ : ByteArray), (⟨#[110, 111, 116]⟩ : ByteArray)]), [.expr], none, 0⟩),
  (135, 29, ⟨(.word [(⟨#[111, 114]⟩ : ByteArray), (⟨#[97, 110, 100]⟩ : ByteArray), (⟨#[61, 61]⟩ : ByteArray), (⟨#[33, 61]⟩ : ByteArray), (⟨#[60]⟩ : ByteArray), (⟨#[60, 61]⟩ : ByteArray), (⟨#[62]⟩ : ByteArray), (⟨#[62, 61]⟩ : ByteArray), (⟨#[43]⟩ : ByteArray), (⟨#[45]⟩ : ByteArray), (⟨#[42]⟩ : ByteArray), (⟨#[47]⟩ : ByteArray), (⟨#[37]⟩ : ByteArray)]), [.expr, .expr], none, 0⟩)]

noncomputable def ops4 : Array Oper := opsOf Try.f48 4
def OpAt (i : Nat) (op : Op) (dst : Option Tmp) : Prop := ∃ o, ops4[i]? = some o ∧ o.op = op ∧ o.guard = none ∧ o.dst = dst
theorem OpAt.of {i : Nat} {op : Op} {dst : Option Tmp} (h : (ops4[i]?).map (fun o => (o.op, o.guard, o.dst)) = some (op, none, dst)) : OpAt i op dst := by
  obtain ⟨o, ho, he⟩ := Option.map_eq_some_iff.1 h
  obtain ⟨h1, h2, h3⟩ := by simpa only [Prod.mk.injEq] using he
  exact ⟨o, ho, h1, h2, h3⟩
/-- the operation i waits for all that write the temporary t -/
noncomputable def deps (i t : Nat) : Bool := (ops4[i]?).any fun o => (List.range 138).all fun j => ((ops4[j]?).bind (·.dst) != some t) || o.after.any (fun e => Region.binds .any e && e.on == j)

structure Inv (wS : World) (listed : Array Bool) (a : Act) (w : World) (mo : Option Nat) : Prop where
  defers : a.defers = []
  size : a.tmps.size = 119
  lsize : listed.size = 138
  below : Below wS.heap.size wS w
  tmps : ∀ t, t < 119 → (∀ i o, ops4[i]? = some o → o.dst = some t → listed.getD i true = true) → Holds mo w (a.tmps.getD t undef) (spec t)
  mo0 : ∀ mb, mo = some mb → listed.getD 0 true = true
  mo1 : mo = none → listed.getD 0 true = false
  ins0 : mo = none → ∀ x ∈ insL, listed.getD x.1 true = false
  mapI : ∀ mb, mo = some mb → wS.heap.size ≤ mb ∧ ∃ es clock, w.heap[mb]? = some (.map es clock) ∧
    (∀ e ∈ es.toList, ∃ x ∈ insL, listed.getD x.1 true = true ∧ e.key = .int .i64 x.2.1 ∧ IsShape w e.val x.2.2) ∧
    (∀ x ∈ insL, listed.getD x.1 true = true → ∃ e ∈ es.toList, e.key = .int .i64 x.2.1)

theorem getD_false_true {listed : Array Bool} {i : Nat} (h : listed.getD i false = true) : listed.getD i true = true := by
  rw [Array.getD_eq_getD_getElem?] at h ⊢
  cases hh : listed[i]? with
  | none => rfl
  | some b => rw [hh] at h; exact h
theorem getD_set {listed : Array Bool} {i j : Nat} (h : (listed.setIfInBounds i true).getD j true = true) (hij : j ≠ i) : listed.getD j true = true := by
  rw [Array.getD_eq_getD_getElem?, Array.getElem?_setIfInBounds_ne (fun e => hij e.symm), ← Array.getD_eq_getD_getElem?] at h
  exact h
theorem getD_set_ne {listed : Array Bool} {i j : Nat} (hij : j ≠ i) : (listed.setIfInBounds i true).getD j true = listed.getD j true := by
  rw [Array.getD_eq_getD_getElem?, Array.getElem?_setIfInBounds_ne (fun e => hij e.symm), ← Array.getD_eq_getD_getElem?]
theorem getD_set_self {listed : Array Bool} {i : Nat} : (listed.setIfInBounds i true).getD i true = true := by
  rw [Array.getD_eq_getD_getElem?]
  rcases Nat.lt_or_ge i listed.size with h | h
  · rw [Array.getElem?_setIfInBounds_self_of_lt h]; rfl
  · rw [Array.getElem?_eq_none (by simpa using h)]; rfl

section
variable {wS : World} {listed : Array Bool} {a : Act} {w : World} {mo : Option Nat} {i : Nat}

theorem known {t : Nat} (hr : i ∈ Region.ready .any ops4 listed) (hd : deps i t = true) : ∀ j o, ops4[j]? = some o → o.dst = some t → listed.getD j true = true := by
  obtain ⟨_, o, ho, hw⟩ := mem_ready.1 hr
  intro j o' hj hdst
  unfold deps at hd
  rw [ho] at hd
  simp only [Option.any_some, List.all_eq_true, List.mem_range, Bool.or_eq_true, bne_iff_ne, ne_eq] at hd
  have hlt : j < 138 := (Array.getElem?_eq_some_iff.1 hj).1
  rcases hd j hlt with h | h
  · rw [hj] at h; exact absurd hdst h
  · obtain ⟨e, he, hb⟩ := Array.any_eq_true'.1 h
    simp only [Bool.and_eq_true, beq_iff_eq] at hb
    have := hw e he hb.1
    rw [hb.2] at this
    exact getD_false_true this

def fnSpec (f : Nat) : Sp := if f = 65 then .text .empty else if f = 67 then .text .number else if f = 46 then .test .stmt else if f = 68 then .test .place else if f = 44 then .test .expr else .other
/-- an operand's kind, and that it is at hand -/
def opSpec : Operand → Sp
  | .tmp t => spec t
  | .func f => fnSpec f
  | _ => .other
noncomputable def opOk (i : Nat) : Operand → Bool
  | .tmp t => decide (t < 119) && deps i t
  | _ => true
theorem operand {x : Operand} (hI : Inv wS listed a w mo) (hr : i ∈ Region.ready .any ops4 listed) (h : opOk i x = true) : Holds mo w (a.eval x) (opSpec x) := by
  cases x with
  | tmp t =>
    simp only [opOk, Bool.and_eq_true, decide_eq_true_eq] at h
    exact hI.tmps t h.1 (known hr h.2)
  | const v => trivial
  | global g => trivial
  | func f =>
    show Holds mo w (.func (.func f) #[] #[]) (fnSpec f)
    unfold fnSpec
    split
    · rename_i h; subst h; exact isText_empty w
    split
    · rename_i h; subst h; exact isText_number w
    split
    · rename_i h; subst h; exact isTest_stmt w
    split
    · rename_i h; subst h; exact isTest_place w
    split
    · rename_i h; subst h; exact isTest_expr w
    · trivial

/-- a step that writes a temporary -/
theorem Inv.put {w' : World} {v : Value} {d : Nat} (hI : Inv wS listed a w mo) (hr : i ∈ Region.ready .any ops4 listed) (hi : ∀ o, ops4[i]? = some o → o.dst = some d) (hb : Below w.heap.size w w') (hv : Holds mo w' v (spec d)) (h0 : i ≠ 0) (hni : insL.all (fun x => x.1 != i) = true) (hd : d < 119) :
    Inv wS (listed.setIfInBounds i true) (a.put (some d) v) w' mo := by
  have hk := KeepC.of_below hb
  refine ⟨hI.defers, by simp [Act.put, hI.size], by simp [hI.lsize], hI.below.trans (hb.mono hI.below.size), ?_, fun mb h => by rw [getD_set_ne (fun e => h0 e.symm)]; exact hI.mo0 mb h, fun h => by rw [getD_set_ne (fun e => h0 e.symm)]; exact hI.mo1 h, fun h x hx => by rw [getD_set_ne (fun e => by have := List.all_eq_true.1 hni x hx; simp [e] at this)]; exact hI.ins0 h x hx, ?_⟩
  · intro t ht hall
    by_cases htd : t = d
    · subst htd
      have : (a.put (some t) v).tmps.getD t undef = v := by
        simp only [Act.put]
        rw [Array.getD_eq_getD_getElem?, Array.getElem?_setIfInBounds_self_of_lt (by rw [hI.size]; exact hd)]; rfl
      rw [this]; exact hv
    · have : (a.put (some d) v).tmps.getD t undef = a.tmps.getD t undef := by
        simp only [Act.put]
        rw [Array.getD_eq_getD_getElem?, Array.getElem?_setIfInBounds_ne (fun e => htd e.symm), ← Array.getD_eq_getD_getElem?]
      rw [this]
      refine (hI.tmps t ht (fun j o hj hdst => ?_)).keep hk
      refine getD_set (hall j o hj hdst) (fun e => ?_)
      subst e
      have := hi o hj
      rw [this] at hdst
      exact htd (Option.some.inj hdst).symm
  · intro mb hmb
    obtain ⟨h1, es, clock, h2, h3, h4⟩ := hI.mapI mb hmb
    have hne : ∀ x ∈ insL, x.1 ≠ i := fun x hx => by have := List.all_eq_true.1 hni x hx; simpa using this
    refine ⟨h1, es, clock, (hb.block mb (Array.getElem?_eq_some_iff.1 h2).1).trans h2, fun e he => ?_, fun x hx hl => h4 x hx (getD_set hl (hne x hx))⟩
    obtain ⟨x, hx, hl, hkey, hs⟩ := h3 e he
    exact ⟨x, hx, by rw [getD_set_ne (hne x hx)]; exact hl, hkey, hs.keep hk⟩

variable {Q : Exit → Act → World → Prop}
/-- what is to be shown of an operation -/
def Step (wS : World) (Q : Exit → Act → World → Prop) (i : Nat) : Prop :=
  ∀ (listed : Array Bool) (a : Act) (w : World) (mo : Option Nat), Inv wS listed a w mo → i ∈ Region.ready .any ops4 listed →
    wpOp Try.prog ops4 Q i (fun a' w' => ∃ mo', Inv wS (listed.setIfInBounds i true) a' w' mo') a w

theorem OpAt.dst {op : Op} {d : Option Tmp} (h : OpAt i op d) : ∀ o, ops4[i]? = some o → o.dst = d := by
  obtain ⟨o, ho, _, _, hd⟩ := h
  intro o' ho'
  rw [ho] at ho'
  rw [← Option.some.inj ho']; exact hd

/-- a value in the world as it stands, or one block on -/
theorem step_value {op : Op} {d : Nat} (hop : OpAt i op (some d)) (h0 : i ≠ 0) (hni : insL.all (fun x => x.1 != i) = true) (hd : d < 119)
    (h : ∀ (listed : Array Bool) (a : Act) (w : World) (mo : Option Nat) (o : Oper), Inv wS listed a w mo → i ∈ Region.ready .any ops4 listed → o.op = op →
      ∃ v w', (execOp a.eval o).run Try.prog w = .ok (.value v) w' ∧ Below w.heap.size w w' ∧ Holds mo w' v (spec d)) : Step wS Q i := by
  intro listed a w mo hI hr
  obtain ⟨o, ho, h1, h2, h3⟩ := hop
  obtain ⟨v, w', hrun, hb, hv⟩ := h listed a w mo o hI hr h1
  refine wpOp_value ho h2 hrun ⟨mo, ?_⟩
  rw [h3]
  exact hI.put hr (OpAt.dst ⟨o, ho, h1, h2, h3⟩) hb hv h0 hni hd
theorem step_call {op : Op} {d : Nat} (hop : OpAt i op (some d)) (h0 : i ≠ 0) (hni : insL.all (fun x => x.1 != i) = true) (hd : d < 119)
    (h : ∀ (listed : Array Bool) (a : Act) (w : World) (mo : Option Nat) (o : Oper), Inv wS listed a w mo → i ∈ Region.ready .any ops4 listed → o.op = op →
      ∃ f args, (execOp a.eval o).run Try.prog w = .ok (.enter f args) w ∧ Calls Try.prog f args w fun e w' => ∃ v, e = .returned v ∧ Below w.heap.size w w' ∧ Holds mo w' v (spec d)) : Step wS Q i := by
  intro listed a w mo hI hr
  obtain ⟨o, ho, h1, h2, h3⟩ := hop
  obtain ⟨f, args, hrun, hc⟩ := h listed a w mo o hI hr h1
  refine wpOp_enter ho h2 hrun (hc.mono ?_)
  rintro e w' ⟨v, rfl, hb, hv⟩
  refine ⟨v, rfl, mo, ?_⟩
  rw [h3]
  exact hI.put hr (OpAt.dst ⟨o, ho, h1, h2, h3⟩) hb hv h0 hni hd

/-! ### the forms -/
theorem isText_form {v : Value} {q : ByteArray → Bool} (h : IsText w v q) : ∃ fn c, v = .func fn #[] c := by
  obtain ⟨id, caps, e, _⟩ := h; exact ⟨_, _, e⟩
theorem isTest_form {v : Value} {q : Int → Bool} (h : IsTest w v q) : ∃ fn c, v = .func fn #[] c := by
  obtain ⟨id, caps, e, _⟩ := h; exact ⟨_, _, e⟩
theorem isTests_form {v : Value} {l : List Ts} (h : IsTests w v l) : ∃ A n c, v = .slice A n c := by
  rcases h with ⟨_, h⟩ | ⟨b, vs, h, _⟩
  · exact ⟨_, _, _, h⟩
  · exact ⟨_, _, _, h⟩

theorem st_build_0 {d : Nat} {x : Operand} {q : Tx} (hop : OpAt i (.build 55 #[(0, x)]) (some d)) (h0 : i ≠ 0) (hni : insL.all (fun x => x.1 != i) = true) (hd : d < 119)
    (hx : opOk i x = true) (hxs : opSpec x = .text q) (hs : spec d = .shape ⟨q, [], none, 0⟩) : Step wS Q i :=
  step_value hop h0 hni hd fun listed a w mo o hI hr ho => by
    have h := operand hI hr hx
    rw [hxs] at h
    obtain ⟨fn, c, e⟩ := isText_form h
    have h1 := Try.underlying55
    have h2 := Try.zeroValue55 w
    refine ⟨.agg #[.func fn #[] c, .slice none 0 0, .nilFunc, .int .i64 0], w, ?_, Below.refl _ _, ?_⟩
    · unfold execOp; rw [ho]; simp only [List.map_toArray, List.map_cons, List.map_nil, e]; go_simp
    · rw [hs]; exact ⟨_, _, _, rfl, by rw [← e]; exact h, .inl ⟨rfl, rfl⟩, rfl⟩

theorem st_build_02 {d : Nat} {x y : Operand} {q : Tx} {t : Ts} (hop : OpAt i (.build 55 #[(0, x), (2, y)]) (some d)) (h0 : i ≠ 0) (hni : insL.all (fun x => x.1 != i) = true) (hd : d < 119)
    (hx : opOk i x = true) (hxs : opSpec x = .text q) (hy : opOk i y = true) (hys : opSpec y = .test t) (hs : spec d = .shape ⟨q, [], some t, 0⟩) : Step wS Q i :=
  step_value hop h0 hni hd fun listed a w mo o hI hr ho => by
    have h := operand hI hr hx
    have g := operand hI hr hy
    rw [hxs] at h
    rw [hys] at g
    obtain ⟨fn, c, e⟩ := isText_form h
    obtain ⟨fn2, c2, e2⟩ := isTest_form g
    have h1 := Try.underlying55
    have h2 := Try.zeroValue55 w
    refine ⟨.agg #[.func fn #[] c, .slice none 0 0, .func fn2 #[] c2, .int .i64 0], w, ?_, Below.refl _ _, ?_⟩
    · unfold execOp; rw [ho]; simp only [List.map_toArray, List.map_cons, List.map_nil, e, e2]; go_simp
    · rw [hs]; exact ⟨_, _, _, rfl, by rw [← e]; exact h, .inl ⟨rfl, rfl⟩, by rw [← e2]; exact g⟩

theorem st_build_023 {d : Nat} {x y : Operand} {k : Int} {q : Tx} {t : Ts} (hop : OpAt i (.build 55 #[(0, x), (2, y), (3, .const (.int .i64 k))]) (some d)) (h0 : i ≠ 0) (hni : insL.all (fun x => x.1 != i) = true) (hd : d < 119)
    (hx : opOk i x = true) (hxs : opSpec x = .text q) (hy : opOk i y = true) (hys : opSpec y = .test t) (hs : spec d = .shape ⟨q, [], some t, k⟩) : Step wS Q i :=
  step_value hop h0 hni hd fun listed a w mo o hI hr ho => by
    have h := operand hI hr hx
    have g := operand hI hr hy
    rw [hxs] at h
    rw [hys] at g
    obtain ⟨fn, c, e⟩ := isText_form h
    obtain ⟨fn2, c2, e2⟩ := isTest_form g
    have h1 := Try.underlying55
    have h2 := Try.zeroValue55 w
    refine ⟨.agg #[.func fn #[] c, .slice none 0 0, .func fn2 #[] c2, .int .i64 k], w, ?_, Below.refl _ _, ?_⟩
    · unfold execOp; rw [ho]; simp only [List.map_toArray, List.map_cons, List.map_nil, e, e2]; go_simp
    · rw [hs]; exact ⟨_, _, _, rfl, by rw [← e]; exact h, .inl ⟨rfl, rfl⟩, by rw [← e2]; exact g⟩

theorem st_build_01 {d : Nat} {x y : Operand} {q : Tx} {l : List Ts} (hop : OpAt i (.build 55 #[(0, x), (1, y)]) (some d)) (h0 : i ≠ 0) (hni : insL.all (fun x => x.1 != i) = true) (hd : d < 119)
    (hx : opOk i x = true) (hxs : opSpec x = .text q) (hy : opOk i y = true) (hys : opSpec y = .tests l) (hs : spec d = .shape ⟨q, l, none, 0⟩) : Step wS Q i :=
  step_value hop h0 hni hd fun listed a w mo o hI hr ho => by
    have h := operand hI hr hx
    have g := operand hI hr hy
    rw [hxs] at h
    rw [hys] at g
    obtain ⟨fn, c, e⟩ := isText_form h
    obtain ⟨A2, n2, c2, e2⟩ := isTests_form g
    have h1 := Try.underlying55
    have h2 := Try.zeroValue55 w
    refine ⟨.agg #[.func fn #[] c, .slice A2 n2 c2, .nilFunc, .int .i64 0], w, ?_, Below.refl _ _, ?_⟩
    · unfold execOp; rw [ho]; simp only [List.map_toArray, List.map_cons, List.map_nil, e, e2]; go_simp
    · rw [hs]; exact ⟨_, _, _, rfl, by rw [← e]; exact h, by rw [← e2]; exact g, rfl⟩

theorem C_new {α : Type} {enc : α → Value} {h1 : ∀ x, (enc x).oneCell' = true} (w : World) (l : List α) (t : TypeId) (hl : l.length ≤ 9223372036854775807) : (Kd.scalar enc h1).C (w.alloc (.cells (l.map enc).toArray t)) (some ⟨w.heap.size, 0, none⟩) l.length l := by
  refine ⟨rfl, hl, fun _ => ⟨_, rfl, fun j p hj => ⟨[enc p], rfl, rfl, fun k u hu => ?_⟩⟩⟩
  cases k with
  | zero =>
    have : enc p = u := by simpa using hu
    subst this
    have hc := blk_cell (World.alloc_heap_new w (.cells (l.map enc).toArray t)) j
    have hadd : (⟨w.heap.size, 0, none⟩ : Addr).add (j * (Kd.scalar enc h1).sz + 0) = ⟨w.heap.size, j, none⟩ := by
      rw [show (Kd.scalar enc h1).sz = 1 from rfl, Nat.mul_one, Nat.add_zero]; simp [Addr.add]; exact fun h => h.symm
    rw [hadd, hc]
    simp [hj]
  | succ k => simp at hu

theorem below_new (w : World) (o : Obj) : Below w.heap.size w (w.alloc o) := (Below.refl _ w).alloc (Nat.le_refl _) _

theorem st_ints1 {d : Nat} {k1 : Int} (hop : OpAt i (.buildSlice 33 1 #[(0, .const (.int .i64 k1))]) (some d)) (h0 : i ≠ 0) (hni : insL.all (fun x => x.1 != i) = true) (hd : d < 119) (hs : spec d = .ints [k1]) : Step wS Q i :=
  step_value hop h0 hni hd fun listed a w mo o hI hr ho => by
    have h1 := Try.underlying33
    have h2 := Try.zeroValue3 w
    refine ⟨.slice (some ⟨w.heap.size, 0, none⟩) 1 1, w.alloc (.cells (List.map (Value.int .i64) [k1]).toArray 3), ?_, below_new _ _, ?_⟩
    · unfold execOp; rw [ho]; simp only [List.map_toArray, List.map_cons, List.map_nil]; go_simp
    · rw [hs]; exact ⟨_, _, rfl, C_new w [k1] 3 (by simp), Nat.le_refl _⟩
theorem st_ints2 {d : Nat} {k1 k2 : Int} (hop : OpAt i (.buildSlice 33 2 #[(0, .const (.int .i64 k1)), (1, .const (.int .i64 k2))]) (some d)) (h0 : i ≠ 0) (hni : insL.all (fun x => x.1 != i) = true) (hd : d < 119) (hs : spec d = .ints [k1, k2]) : Step wS Q i :=
  step_value hop h0 hni hd fun listed a w mo o hI hr ho => by
    have h1 := Try.underlying33
    have h2 := Try.zeroValue3 w
    refine ⟨.slice (some ⟨w.heap.size, 0, none⟩) 2 2, w.alloc (.cells (List.map (Value.int .i64) [k1, k2]).toArray 3), ?_, below_new _ _, ?_⟩
    · unfold execOp; rw [ho]; simp only [List.map_toArray, List.map_cons, List.map_nil]; go_simp
    · rw [hs]; exact ⟨_, _, rfl, C_new w [k1, k2] 3 (by simp), Nat.le_refl _⟩
theorem st_strs2 {d : Nat} {k1 k2 : ByteArray} (hop : OpAt i (.buildSlice 75 2 #[(0, .const (.string k1)), (1, .const (.string k2))]) (some d)) (h0 : i ≠ 0) (hni : insL.all (fun x => x.1 != i) = true) (hd : d < 119) (hs : spec d = .strs [k1, k2]) : Step wS Q i :=
  step_value hop h0 hni hd fun listed a w mo o hI hr ho => by
    have h1 := Try.underlying75
    have h2 := Try.zeroValue9 w
    refine ⟨.slice (some ⟨w.heap.size, 0, none⟩) 2 2, w.alloc (.cells (List.map Value.string [k1, k2]).toArray 9), ?_, below_new _ _, ?_⟩
    · unfold execOp; rw [ho]; simp only [List.map_toArray, List.map_cons, List.map_nil]; go_simp
    · rw [hs]; exact ⟨_, _, rfl, C_new w [k1, k2] 9 (by simp), Nat.le_refl _⟩
theorem st_strs13 {d : Nat} {k0 k1 k2 k3 k4 k5 k6 k7 k8 k9 k10 k11 k12 : ByteArray} (hop : OpAt i (.buildSlice 75 13 #[(0, .const (.string k0)), (1, .const (.string k1)), (2, .const (.string k2)), (3, .const (.string k3)), (4, .const (.string k4)), (5, .const (.string k5)), (6, .const (.string k6)), (7, .const (.string k7)), (8, .const (.string k8)), (9, .const (.string k9)), (10, .const (.string k10)), (11, .const (.string k11)), (12, .const (.string k12))]) (some d)) (h0 : i ≠ 0) (hni : insL.all (fun x => x.1 != i) = true) (hd : d < 119) (hs : spec d = .strs [k0, k1, k2, k3, k4, k5, k6, k7, k8, k9, k10, k11, k12]) : Step wS Q i :=
  step_value hop h0 hni hd fun listed a w mo o hI hr ho => by
    have h1 := Try.underlying75
    have h2 := Try.zeroValue9 w
    refine ⟨.slice (some ⟨w.heap.size, 0, none⟩) 13 13, w.alloc (.cells (List.map Value.string [k0, k1, k2, k3, k4, k5, k6, k7, k8, k9, k10, k11, k12]).toArray 9), ?_, below_new _ _, ?_⟩
    · unfold execOp; rw [ho]; simp only [List.map_toArray, List.map_cons, List.map_nil]; go_simp
    · rw [hs]; exact ⟨_, _, rfl, C_new w [k0, k1, k2, k3, k4, k5, k6, k7, k8, k9, k10, k11, k12] 9 (by simp), Nat.le_refl _⟩
theorem st_tests1 {d : Nat} {x1 : Operand} {t1 : Ts} (hop : OpAt i (.buildSlice 53 1 #[(0, x1)]) (some d)) (h0 : i ≠ 0) (hni : insL.all (fun x => x.1 != i) = true) (hd : d < 119)
    (hx1 : opOk i x1 = true) (hy1 : opSpec x1 = .test t1) (hs : spec d = .tests [t1]) : Step wS Q i :=
  step_value hop h0 hni hd fun listed a w mo o hI hr ho => by
    have g1 := operand hI hr hx1
    rw [hy1] at g1
    obtain ⟨f1, c1, e1⟩ := isTest_form g1
    have h1 := Try.underlying53
    have h2 := Try.zeroValue28 w
    refine ⟨.slice (some ⟨w.heap.size, 0, none⟩) 1 1, w.alloc (.cells #[.func f1 #[] c1] 28), ?_, below_new _ _, ?_⟩
    · unfold execOp; rw [ho]; simp only [List.map_toArray, List.map_cons, List.map_nil, e1]; go_simp
    · rw [hs]
      refine .inr ⟨w.heap.size, [.func f1 #[] c1], rfl, World.alloc_heap_new _ _, rfl, fun j t hj => ?_⟩
      rcases j with _|_
      · obtain rfl : t1 = t := by simpa using hj
        exact ⟨_, rfl, IsTest.keep (by rw [← e1]; exact g1) (KeepC.alloc _ _)⟩
      · simp at hj
theorem st_tests2 {d : Nat} {x1 x2 : Operand} {t1 t2 : Ts} (hop : OpAt i (.buildSlice 53 2 #[(0, x1), (1, x2)]) (some d)) (h0 : i ≠ 0) (hni : insL.all (fun x => x.1 != i) = true) (hd : d < 119)
    (hx1 : opOk i x1 = true) (hy1 : opSpec x1 = .test t1) (hx2 : opOk i x2 = true) (hy2 : opSpec x2 = .test t2) (hs : spec d = .tests [t1, t2]) : Step wS Q i :=
  step_value hop h0 hni hd fun listed a w mo o hI hr ho => by
    have g1 := operand hI hr hx1
    rw [hy1] at g1
    obtain ⟨f1, c1, e1⟩ := isTest_form g1
    have g2 := operand hI hr hx2
    rw [hy2] at g2
    obtain ⟨f2, c2, e2⟩ := isTest_form g2
    have h1 := Try.underlying53
    have h2 := Try.zeroValue28 w
    refine ⟨.slice (some ⟨w.heap.size, 0, none⟩) 2 2, w.alloc (.cells #[.func f1 #[] c1, .func f2 #[] c2] 28), ?_, below_new _ _, ?_⟩
    · unfold execOp; rw [ho]; simp only [List.map_toArray, List.map_cons, List.map_nil, e1, e2]; go_simp
    · rw [hs]
      refine .inr ⟨w.heap.size, [.func f1 #[] c1, .func f2 #[] c2], rfl, World.alloc_heap_new _ _, rfl, fun j t hj => ?_⟩
      rcases j with _|_|_
      · obtain rfl : t1 = t := by simpa using hj
        exact ⟨_, rfl, IsTest.keep (by rw [← e1]; exact g1) (KeepC.alloc _ _)⟩
      · obtain rfl : t2 = t := by simpa using hj
        exact ⟨_, rfl, IsTest.keep (by rw [← e2]; exact g2) (KeepC.alloc _ _)⟩
      · simp at hj
theorem st_tests3 {d : Nat} {x1 x2 x3 : Operand} {t1 t2 t3 : Ts} (hop : OpAt i (.buildSlice 53 3 #[(0, x1), (1, x2), (2, x3)]) (some d)) (h0 : i ≠ 0) (hni : insL.all (fun x => x.1 != i) = true) (hd : d < 119)
    (hx1 : opOk i x1 = true) (hy1 : opSpec x1 = .test t1) (hx2 : opOk i x2 = true) (hy2 : opSpec x2 = .test t2) (hx3 : opOk i x3 = true) (hy3 : opSpec x3 = .test t3) (hs : spec d = .tests [t1, t2, t3]) : Step wS Q i :=
  step_value hop h0 hni hd fun listed a w mo o hI hr ho => by
    have g1 := operand hI hr hx1
    rw [hy1] at g1
    obtain ⟨f1, c1, e1⟩ := isTest_form g1
    have g2 := operand hI hr hx2
    rw [hy2] at g2
    obtain ⟨f2, c2, e2⟩ := isTest_form g2
    have g3 := operand hI hr hx3
    rw [hy3] at g3
    obtain ⟨f3, c3, e3⟩ := isTest_form g3
    have h1 := Try.underlying53
    have h2 := Try.zeroValue28 w
    refine ⟨.slice (some ⟨w.heap.size, 0, none⟩) 3 3, w.alloc (.cells #[.func f1 #[] c1, .func f2 #[] c2, .func f3 #[] c3] 28), ?_, below_new _ _, ?_⟩
    · unfold execOp; rw [ho]; simp only [List.map_toArray, List.map_cons, List.map_nil, e1, e2, e3]; go_simp
    · rw [hs]
      refine .inr ⟨w.heap.size, [.func f1 #[] c1, .func f2 #[] c2, .func f3 #[] c3], rfl, World.alloc_heap_new _ _, rfl, fun j t hj => ?_⟩
      rcases j with _|_|_|_
      · obtain rfl : t1 = t := by simpa using hj
        exact ⟨_, rfl, IsTest.keep (by rw [← e1]; exact g1) (KeepC.alloc _ _)⟩
      · obtain rfl : t2 = t := by simpa using hj
        exact ⟨_, rfl, IsTest.keep (by rw [← e2]; exact g2) (KeepC.alloc _ _)⟩
      · obtain rfl : t3 = t := by simpa using hj
        exact ⟨_, rfl, IsTest.keep (by rw [← e3]; exact g3) (KeepC.alloc _ _)⟩
      · simp at hj

theorem st_move {d t : Nat} (hop : OpAt i (.move (.tmp t)) (some d)) (h0 : i ≠ 0) (hni : insL.all (fun x => x.1 != i) = true) (hd : d < 119) (hx : opOk i (.tmp t) = true) (hs : spec d = spec t) : Step wS Q i :=
  step_value hop h0 hni hd fun listed a w mo o hI hr ho => by
    have h := operand hI hr hx
    refine ⟨a.eval (.tmp t), w, ?_, Below.refl _ _, by rw [hs]; exact h⟩
    unfold execOp; rw [ho]; go_simp
theorem st_assign {d t : Nat} (hop : OpAt i (.assign (.tmp t)) (some d)) (h0 : i ≠ 0) (hni : insL.all (fun x => x.1 != i) = true) (hd : d < 119) (hx : opOk i (.tmp t) = true) (hs : spec d = spec t) : Step wS Q i :=
  step_value hop h0 hni hd fun listed a w mo o hI hr ho => by
    have h := operand hI hr hx
    refine ⟨a.eval (.tmp t), w, ?_, Below.refl _ _, by rw [hs]; exact h⟩
    unfold execOp; rw [ho]; go_simp
theorem st_load {d : Nat} (hop : OpAt i (.load 52 (.tmp 1)) (some d)) (h0 : i ≠ 0) (hni : insL.all (fun x => x.1 != i) = true) (hd : d < 119) (hx : opOk i (.tmp 1) = true) (hs : spec d = .text .name) : Step wS Q i :=
  step_value hop h0 hni hd fun listed a w mo o hI hr ho => by
    obtain ⟨b, u, e, hc, ht⟩ : Holds mo w (a.eval (.tmp 1)) (.ptr .name) := operand hI hr hx
    have h1 := Try.underlying52
    refine ⟨u, w, ?_, Below.refl _ _, by rw [hs]; exact ht⟩
    obtain ⟨fn, c, rfl⟩ := isText_form ht
    unfold execOp; rw [ho]; simp only [e]; go_simp
theorem st_makeFunc {d : Nat} (hop : OpAt i (.makeFunc (Fn.func 66) #[] #[.tmp 5, .tmp 1]) (some d)) (h0 : i ≠ 0) (hni : insL.all (fun x => x.1 != i) = true) (hd : d < 119) (hx : opOk i (.tmp 1) = true) (hy : opOk i (.tmp 5) = true) (hs : spec d = .text .scalar) : Step wS Q i :=
  step_value hop h0 hni hd fun listed a w mo o hI hr ho => by
    obtain ⟨b, u, e, hc, ht⟩ : Holds mo w (a.eval (.tmp 1)) (.ptr .name) := operand hI hr hx
    obtain ⟨b2, u2, e2, hc2, ht2⟩ : Holds mo w (a.eval (.tmp 5)) (.ptr (.word [wInt, wBool])) := operand hI hr hy
    refine ⟨.func (.func 66) #[] [.pointer (some ⟨b2, 0, none⟩), .pointer (some ⟨b, 0, none⟩)].toArray, w, ?_, Below.refl _ _, ?_⟩
    · unfold execOp; rw [ho]; simp only [List.map_toArray, List.map_cons, List.map_nil, e, e2]; go_simp
    · rw [hs]
      exact ⟨66, _, rfl, enters_of Try.func66 (by kernel_rfl) rfl, fun w' hk s hsz => either_calls u2 u _ _ b2 b s hsz w' (hk.cell hc2) (hk.cell hc) (ht2.keep hk) (ht.keep hk)⟩

theorem st_call61 {d t : Nat} {l : List Int} (hop : OpAt i (.call { callee := .value (.func 61), args := #[.tmp t], argTypes := #[33] }) (some d)) (h0 : i ≠ 0) (hni : insL.all (fun x => x.1 != i) = true) (hd : d < 119) (hx : opOk i (.tmp t) = true) (hxs : spec t = .ints l) (hl : l.length < 4611686018427387904) (hs : spec d = .test (.one l)) : Step wS Q i :=
  step_call hop h0 hni hd fun listed a w mo o hI hr ho => by
    have h := operand hI hr hx
    rw [show opSpec (.tmp t) = .ints l from hxs] at h
    obtain ⟨A, c, e, hC, hc⟩ := h
    have he := enters_of (P := Try.prog) Try.func61 (by kernel_rfl) rfl
    refine ⟨61, #[.slice A l.length c], ?_, (one_calls l hl A c w hC hc).mono ?_⟩
    · unfold execOp; rw [ho]; simp only [List.map_toArray, List.map_cons, List.map_nil, e]; have e' := (show a.tmps[t]?.getD undef = a.eval (.tmp t) by simp [Act.eval]).trans e
      go_simp
    · rintro e w' ⟨v, rfl, ht, hb⟩
      exact ⟨v, rfl, hb, by rw [hs]; exact ht⟩
theorem st_call62 {d t : Nat} {u : Ts} (hop : OpAt i (.call { callee := .value (.func 62), args := #[.tmp t], argTypes := #[28] }) (some d)) (h0 : i ≠ 0) (hni : insL.all (fun x => x.1 != i) = true) (hd : d < 119) (hx : opOk i (.tmp t) = true) (hxs : spec t = .test u) (hs : spec d = .test (.opt u)) : Step wS Q i :=
  step_call hop h0 hni hd fun listed a w mo o hI hr ho => by
    have h : IsTest w (a.eval (.tmp t)) u.ev := by have h := operand hI hr hx; rw [show opSpec (.tmp t) = .test u from hxs] at h; exact h
    have he := enters_of (P := Try.prog) Try.func62 (by kernel_rfl) rfl
    refine ⟨62, #[a.eval (.tmp t)], ?_, (optional_calls _ _ w h).mono ?_⟩
    · obtain ⟨fn, c, e⟩ := isTest_form h
      unfold execOp; rw [ho]; simp only [List.map_toArray, List.map_cons, List.map_nil, e]; have e' := (show a.tmps[t]?.getD undef = a.eval (.tmp t) by simp [Act.eval]).trans e
      go_simp
    · rintro e w' ⟨v, rfl, ht, hb⟩
      exact ⟨v, rfl, hb, by rw [hs]; exact ht⟩
theorem st_call64 {d t : Nat} {l : List ByteArray} (hop : OpAt i (.call { callee := .value (.func 64), args := #[.tmp t], argTypes := #[75] }) (some d)) (h0 : i ≠ 0) (hni : insL.all (fun x => x.1 != i) = true) (hd : d < 119) (hx : opOk i (.tmp t) = true) (hxs : spec t = .strs l) (hl : l.length < 4611686018427387904) (hs : spec d = .text (.word l)) : Step wS Q i :=
  step_call hop h0 hni hd fun listed a w mo o hI hr ho => by
    have h := operand hI hr hx
    rw [show opSpec (.tmp t) = .strs l from hxs] at h
    obtain ⟨A, c, e, hC, hc⟩ := h
    have he := enters_of (P := Try.prog) Try.func64 (by kernel_rfl) rfl
    refine ⟨64, #[.slice A l.length c], ?_, (word_calls l hl A c w hC hc).mono ?_⟩
    · unfold execOp; rw [ho]; simp only [List.map_toArray, List.map_cons, List.map_nil, e]; have e' := (show a.tmps[t]?.getD undef = a.eval (.tmp t) by simp [Act.eval]).trans e
      go_simp
    · rintro e w' ⟨v, rfl, ht, hb⟩
      exact ⟨v, rfl, hb, by rw [hs]; exact ht⟩

/-! ### the map -/
theorem insert_new (w : World) (b clock : Nat) (es : Array MapEntry) (k : Int) (v : Value) (hb : w.heap[b]? = some (.map es clock)) (hne : ∀ e ∈ es.toList, ∃ k', e.key = .int .i64 k' ∧ k' ≠ k) :
    (Instr.mapUpdate 56 (.map (some b)) (.int .i64 k) v).run Try.prog w = .ok () (w.putObj b (.map (es.push ⟨.int .i64 k, v, clock⟩) (clock + 1))) := by
  have hm := Try.underlying56
  have hk := Try.underlying3
  have hf : Instr.findNow (.int .i64) (.int .i64 k) es.toList 0 = some none := findNow_none (fun e he => by
    obtain ⟨k', h1, h2⟩ := hne e he
    rw [h1]; simp only [Instr.sameNow]
    have : (k == k') = false := by simpa using fun e => h2 e.symm
    simp [this]) 0
  have hc : (Instr.checkKey false 10000 3 (.int .i64 k)).run Try.prog w = .ok () w := MapKept.run_checkKey (k := .int .i64 k) hk (by simp [MapKept.IsKey]) false 9999
  simp [Instr.mapUpdate, run_underlying hm, MapKept.run_getObj_map hb, hc, MapKept.run_findKey hk hf, MapKept.run_setObj_map _ hb, Result.andThen, World.putObj]

theorem keepC_putMap (w : World) (b : Nat) (es : Array MapEntry) (clock : Nat) (hb : w.heap[b]? = some (.map es clock)) (o : Obj) : KeepC w (w.putObj b o) := fun k o' h1 h2 => by
  by_cases hk : k = b
  · subst hk; rw [hb] at h1; cases h1; cases h2
  · rw [World.putObj_heap_other hk]; exact h1

theorem keys_nodup : (insL.map (fun x => x.2.1)).Nodup := by decide
theorem ins_inj {x y : Nat × Int × Sh} (hx : x ∈ insL) (hy : y ∈ insL) (h : x.2.1 = y.2.1) : x = y := by
  have hn := keys_nodup
  obtain ⟨i, hi, rfl⟩ := List.getElem_of_mem hx
  obtain ⟨j, hj, rfl⟩ := List.getElem_of_mem hy
  have : i = j := (List.getElem_inj (h₀ := by simpa using hi) (h₁ := by simpa using hj) hn).1 (by simpa using h)
  subst this; rfl
theorem idx_nodup : (insL.map (fun x => x.1)).Nodup := by decide

theorem idx_inj {x y : Nat × Int × Sh} (hx : x ∈ insL) (hy : y ∈ insL) (h : x.1 = y.1) : x = y := by
  have hn := idx_nodup
  obtain ⟨i, hi, rfl⟩ := List.getElem_of_mem hx
  obtain ⟨j, hj, rfl⟩ := List.getElem_of_mem hy
  have : i = j := (List.getElem_inj (h₀ := by simpa using hi) (h₁ := by simpa using hj) hn).1 (by simpa using h)
  subst this; rfl

theorem st_insert {k : Int} {t : Nat} {s : Sh} (hop : OpAt i (.insert 56 (.tmp 11) (.const (.int .i64 k)) (.tmp t)) none) (hmem : (i, k, s) ∈ insL) (h0 : i ≠ 0) (hx : opOk i (.tmp t) = true) (hm : opOk i (.tmp 11) = true) (hs : spec t = .shape s) : Step wS Q i := by
  intro listed a w mo hI hr
  obtain ⟨o, ho, h1, h2, h3⟩ := hop
  have hsh : IsShape w (a.eval (.tmp t)) s := by have h := operand hI hr hx; rw [show opSpec (.tmp t) = .shape s from hs] at h; exact h
  obtain ⟨mb, hmo, hmap⟩ : Holds mo w (a.eval (.tmp 11)) .map := operand hI hr hm
  obtain ⟨hlo, es, clock, hb, hes, hins⟩ := hI.mapI mb hmo
  have hun := (mem_ready.1 hr).1
  have hne : ∀ e ∈ es.toList, ∃ k', e.key = .int .i64 k' ∧ k' ≠ k := fun e he => by
    obtain ⟨x, hx, hl, hk, _⟩ := hes e he
    refine ⟨x.2.1, hk, fun e => ?_⟩
    have := ins_inj hx hmem e
    rw [this, hun] at hl; cases hl
  have hrun := insert_new w mb clock es k (a.eval (.tmp t)) hb hne
  have hsz := (Array.getElem?_eq_some_iff.1 hb).1
  have hkc := keepC_putMap w mb es clock hb (.map (es.push ⟨.int .i64 k, a.eval (.tmp t), clock⟩) (clock + 1))
  obtain ⟨w', hw'⟩ : ∃ w', w.putObj mb (.map (es.push ⟨.int .i64 k, a.eval (.tmp t), clock⟩) (clock + 1)) = w' := ⟨_, rfl⟩
  have hb' : w'.heap[mb]? = some (.map (es.push ⟨.int .i64 k, a.eval (.tmp t), clock⟩) (clock + 1)) := by rw [← hw']; exact World.putObj_heap_same hsz
  have hbel : Below wS.heap.size w w' := by
    rw [← hw']
    exact (Below.refl _ w).grown (grownBy_putObj' w mb _) hI.below.size (fun k e => by cases e; exact hlo)
  rw [hw'] at hrun hkc
  refine wpOp_skip (w' := w') ho h2 ?_ ⟨mo, ?_⟩
  · obtain ⟨tv, kv, lv, e, _⟩ := hsh
    unfold execOp; rw [h1]; simp only [hmap]
    rw [show a.eval (.const (.int .i64 k)) = .int .i64 k from rfl]
    simp [hrun, Result.andThen]
  · rw [h3]
    have hself : (listed.setIfInBounds i true).getD i true = true := getD_set_self
    refine ⟨hI.defers, hI.size, by simp [hI.lsize], hI.below.trans hbel, fun t' ht' hall => ?_, fun mb' h => by rw [getD_set_ne (fun e => h0 e.symm)]; exact hI.mo0 mb' h, fun h => by rw [getD_set_ne (fun e => h0 e.symm)]; exact hI.mo1 h, fun h => (by rw [hmo] at h; cases h), fun mb' hmb' => ?_⟩
    · refine (hI.tmps t' ht' (fun j o' hj hdst => getD_set (hall j o' hj hdst) (fun e => ?_))).keep hkc
      subst e
      rw [ho] at hj; cases hj
      rw [h3] at hdst; cases hdst
    · rw [hmo] at hmb'
      obtain rfl := Option.some.inj hmb'
      refine ⟨hlo, _, _, hb', fun e he => ?_, fun x hx hl => ?_⟩
      · simp only [Array.toList_push, List.mem_append, List.mem_singleton] at he
        rcases he with he | rfl
        · obtain ⟨x, hx, hl, hk, hs'⟩ := hes e he
          refine ⟨x, hx, ?_, hk, hs'.keep hkc⟩
          by_cases hxi : x.1 = i
          · rw [hxi]; exact hself
          · rw [getD_set_ne hxi]; exact hl
        · exact ⟨(i, k, s), hmem, hself, rfl, hsh.keep hkc⟩
      · simp only [Array.toList_push, List.mem_append, List.mem_singleton]
        by_cases hxi : x.1 = i
        · have := idx_inj hx hmem hxi
          subst this
          exact ⟨_, .inr rfl, rfl⟩
        · obtain ⟨e, he, hk⟩ := hins x hx (getD_set hl hxi)
          exact ⟨e, .inl he, hk⟩

theorem st_makeMap (hop : OpAt 0 (.makeMap 56 none) (some 11)) (hins0 : ∀ x ∈ insL, x.1 ≠ 0) : Step wS Q 0 := by
  intro listed a w mo hI hr
  obtain ⟨o, ho, h1, h2, h3⟩ := hop
  have hun := (mem_ready.1 hr).1
  have hmo : mo = none := by
    cases mo with
    | none => rfl
    | some mb => rw [hI.mo0 mb rfl] at hun; cases hun
  subst hmo
  have hnone := hI.ins0 rfl
  have hkc : KeepC w (w.alloc (.map #[] 0)) := KeepC.alloc _ _
  refine wpOp_value (w' := w.alloc (.map #[] 0)) (v := .map (some w.heap.size)) ho h2 ?_ ⟨some w.heap.size, ?_⟩
  · have hmk := run_makeMap_plain (P := Try.prog) w 56
    unfold execOp; rw [h1]; simp [hmk, Result.andThen]
  · rw [h3]
    refine ⟨hI.defers, by simp [Act.put, hI.size], by simp [hI.lsize], hI.below.trans ((below_new w _).mono hI.below.size), fun t ht hall => ?_, fun _ _ => getD_set_self, fun h => (by cases h), fun h => (by cases h), fun mb hmb => ?_⟩
    · by_cases htd : t = 11
      · subst htd
        have : (a.put (some 11) (.map (some w.heap.size))).tmps.getD 11 undef = .map (some w.heap.size) := by
          simp only [Act.put]
          rw [Array.getD_eq_getD_getElem?, Array.getElem?_setIfInBounds_self_of_lt (by rw [hI.size]; exact ht)]; rfl
        rw [this]
        exact ⟨_, rfl, rfl⟩
      · have : (a.put (some 11) (.map (some w.heap.size))).tmps.getD t undef = a.tmps.getD t undef := by
          simp only [Act.put]
          rw [Array.getD_eq_getD_getElem?, Array.getElem?_setIfInBounds_ne (fun e => htd e.symm), ← Array.getD_eq_getD_getElem?]
        rw [this]
        have h := (hI.tmps t ht (fun j o' hj hdst => getD_set (hall j o' hj hdst) (fun e => by
          subst e
          rw [ho] at hj; cases hj
          rw [h3] at hdst; exact htd (Option.some.inj hdst).symm))).keep hkc
        revert h
        cases spec t <;> intro h <;> first | exact h | (obtain ⟨_, h', _⟩ := h; cases h')
    · obtain rfl := Option.some.inj hmb
      refine ⟨hI.below.size, #[], 0, World.alloc_heap_new _ _, fun e he => by simp at he, fun x hx hl => ?_⟩
      rw [getD_set_ne (hins0 x hx), hnone x hx] at hl; cases hl
end

section
variable {wS : World} {Q : Exit → Act → World → Prop}
theorem step_0 : Step wS Q 0 := st_makeMap (.of (by kernel_rfl)) (by decide)
theorem step_1 : Step wS Q 1 := st_build_0 (d := 12) (x := .func 65) (q := .empty) (.of (by kernel_rfl)) (by decide) (by kernel_rfl) (by decide) (by kernel_rfl) (by kernel_rfl)  (by kernel_rfl)
theorem step_2 : Step wS Q 2 := st_insert (k := 0) (t := 12) (s := ⟨.empty, [], none, 0⟩) (.of (by kernel_rfl)) (List.mem_of_getElem? (i := 0) (by kernel_rfl)) (by decide) (by kernel_rfl) (by kernel_rfl) (by kernel_rfl)
theorem step_3 : Step wS Q 3 := st_ints2 (d := 13) (k1 := 3) (k2 := 5) (.of (by kernel_rfl)) (by decide) (by kernel_rfl) (by decide) (by kernel_rfl)
theorem step_4 : Step wS Q 4 := st_call61 (d := 14) (t := 13) (l := [3, 5]) (.of (by kernel_rfl)) (by decide) (by kernel_rfl) (by decide) (by kernel_rfl) (by kernel_rfl) (by decide) (by kernel_rfl)
theorem step_5 : Step wS Q 5 := st_build_02 (d := 15) (x := .func 65) (q := .empty) (y := .tmp 14) (t := (.one [3, 5])) (.of (by kernel_rfl)) (by decide) (by kernel_rfl) (by decide) (by kernel_rfl) (by kernel_rfl) (by kernel_rfl) (by kernel_rfl) (by kernel_rfl)
theorem step_6 : Step wS Q 6 := st_insert (k := 2) (t := 15) (s := ⟨.empty, [], (some (.one [3, 5])), 0⟩) (.of (by kernel_rfl)) (List.mem_of_getElem? (i := 1) (by kernel_rfl)) (by decide) (by kernel_rfl) (by kernel_rfl) (by kernel_rfl)
theorem step_7 : Step wS Q 7 := st_load (d := 16) (.of (by kernel_rfl)) (by decide) (by kernel_rfl) (by decide) (by kernel_rfl) (by kernel_rfl)
theorem step_8 : Step wS Q 8 := st_ints1 (d := 17) (k1 := 4) (.of (by kernel_rfl)) (by decide) (by kernel_rfl) (by decide) (by kernel_rfl)
theorem step_9 : Step wS Q 9 := st_call61 (d := 18) (t := 17) (l := [4]) (.of (by kernel_rfl)) (by decide) (by kernel_rfl) (by decide) (by kernel_rfl) (by kernel_rfl) (by decide) (by kernel_rfl)
theorem step_10 : Step wS Q 10 := st_build_023 (d := 19) (x := .tmp 16) (q := .name) (y := .tmp 18) (t := (.one [4])) (k := 1) (.of (by kernel_rfl)) (by decide) (by kernel_rfl) (by decide) (by kernel_rfl) (by kernel_rfl) (by kernel_rfl) (by kernel_rfl) (by kernel_rfl)
theorem step_11 : Step wS Q 11 := st_insert (k := 3) (t := 19) (s := ⟨.name, [], (some (.one [4])), 1⟩) (.of (by kernel_rfl)) (List.mem_of_getElem? (i := 2) (by kernel_rfl)) (by decide) (by kernel_rfl) (by kernel_rfl) (by kernel_rfl)
theorem step_12 : Step wS Q 12 := st_load (d := 20) (.of (by kernel_rfl)) (by decide) (by kernel_rfl) (by decide) (by kernel_rfl) (by kernel_rfl)
theorem step_13 : Step wS Q 13 := st_ints1 (d := 21) (k1 := 9) (.of (by kernel_rfl)) (by decide) (by kernel_rfl) (by decide) (by kernel_rfl)
theorem step_14 : Step wS Q 14 := st_call61 (d := 22) (t := 21) (l := [9]) (.of (by kernel_rfl)) (by decide) (by kernel_rfl) (by decide) (by kernel_rfl) (by kernel_rfl) (by decide) (by kernel_rfl)
theorem step_15 : Step wS Q 15 := st_tests1 (d := 23) (x1 := .tmp 22) (t1 := (.one [9])) (.of (by kernel_rfl)) (by decide) (by kernel_rfl) (by decide) (by kernel_rfl) (by kernel_rfl) (by kernel_rfl)
theorem step_16 : Step wS Q 16 := st_build_01 (d := 24) (x := .tmp 20) (q := .name) (y := .tmp 23) (l := [(.one [9])]) (.of (by kernel_rfl)) (by decide) (by kernel_rfl) (by decide) (by kernel_rfl) (by kernel_rfl) (by kernel_rfl) (by kernel_rfl) (by kernel_rfl)
theorem step_17 : Step wS Q 17 := st_insert (k := 4) (t := 24) (s := ⟨.name, [(.one [9])], none, 0⟩) (.of (by kernel_rfl)) (List.mem_of_getElem? (i := 3) (by kernel_rfl)) (by decide) (by kernel_rfl) (by kernel_rfl) (by kernel_rfl)
theorem step_18 : Step wS Q 18 := st_load (d := 25) (.of (by kernel_rfl)) (by decide) (by kernel_rfl) (by decide) (by kernel_rfl) (by kernel_rfl)
theorem step_19 : Step wS Q 19 := st_ints1 (d := 26) (k1 := 6) (.of (by kernel_rfl)) (by decide) (by kernel_rfl) (by decide) (by kernel_rfl)
theorem step_20 : Step wS Q 20 := st_call61 (d := 27) (t := 26) (l := [6]) (.of (by kernel_rfl)) (by decide) (by kernel_rfl) (by decide) (by kernel_rfl) (by kernel_rfl) (by decide) (by kernel_rfl)
theorem step_21 : Step wS Q 21 := st_move (d := 28) (t := 4) (.of (by kernel_rfl)) (by decide) (by kernel_rfl) (by decide) (by kernel_rfl) (by kernel_rfl)
theorem step_22 : Step wS Q 22 := st_move (d := 29) (t := 2) (.of (by kernel_rfl)) (by decide) (by kernel_rfl) (by decide) (by kernel_rfl) (by kernel_rfl)
theorem step_23 : Step wS Q 23 := st_tests3 (d := 30) (x1 := .tmp 27) (t1 := (.one [6])) (x2 := .tmp 28) (t2 := (.opt .type)) (x3 := .tmp 29) (t3 := (.one [11])) (.of (by kernel_rfl)) (by decide) (by kernel_rfl) (by decide) (by kernel_rfl) (by kernel_rfl) (by kernel_rfl) (by kernel_rfl) (by kernel_rfl) (by kernel_rfl) (by kernel_rfl)
theorem step_24 : Step wS Q 24 := st_build_01 (d := 31) (x := .tmp 25) (q := .name) (y := .tmp 30) (l := [(.one [6]), (.opt .type), (.one [11])]) (.of (by kernel_rfl)) (by decide) (by kernel_rfl) (by decide) (by kernel_rfl) (by kernel_rfl) (by kernel_rfl) (by kernel_rfl) (by kernel_rfl)
theorem step_25 : Step wS Q 25 := st_insert (k := 5) (t := 31) (s := ⟨.name, [(.one [6]), (.opt .type), (.one [11])], none, 0⟩) (.of (by kernel_rfl)) (List.mem_of_getElem? (i := 4) (by kernel_rfl)) (by decide) (by kernel_rfl) (by kernel_rfl) (by kernel_rfl)
theorem step_26 : Step wS Q 26 := st_ints2 (d := 32) (k1 := 7) (k2 := 8) (.of (by kernel_rfl)) (by decide) (by kernel_rfl) (by decide) (by kernel_rfl)
theorem step_27 : Step wS Q 27 := st_call61 (d := 33) (t := 32) (l := [7, 8]) (.of (by kernel_rfl)) (by decide) (by kernel_rfl) (by decide) (by kernel_rfl) (by kernel_rfl) (by decide) (by kernel_rfl)
theorem step_28 : Step wS Q 28 := st_build_02 (d := 34) (x := .func 65) (q := .empty) (y := .tmp 33) (t := (.one [7, 8])) (.of (by kernel_rfl)) (by decide) (by kernel_rfl) (by decide) (by kernel_rfl) (by kernel_rfl) (by kernel_rfl) (by kernel_rfl) (by kernel_rfl)
theorem step_29 : Step wS Q 29 := st_insert (k := 6) (t := 34) (s := ⟨.empty, [], (some (.one [7, 8])), 0⟩) (.of (by kernel_rfl)) (List.mem_of_getElem? (i := 5) (by kernel_rfl)) (by decide) (by kernel_rfl) (by kernel_rfl) (by kernel_rfl)
theorem step_30 : Step wS Q 30 := st_load (d := 35) (.of (by kernel_rfl)) (by decide) (by kernel_rfl) (by decide) (by kernel_rfl) (by kernel_rfl)
theorem step_31 : Step wS Q 31 := st_move (d := 36) (t := 4) (.of (by kernel_rfl)) (by decide) (by kernel_rfl) (by decide) (by kernel_rfl) (by kernel_rfl)
theorem step_32 : Step wS Q 32 := st_tests1 (d := 37) (x1 := .tmp 36) (t1 := (.opt .type)) (.of (by kernel_rfl)) (by decide) (by kernel_rfl) (by decide) (by kernel_rfl) (by kernel_rfl) (by kernel_rfl)
theorem step_33 : Step wS Q 33 := st_build_01 (d := 38) (x := .tmp 35) (q := .name) (y := .tmp 37) (l := [(.opt .type)]) (.of (by kernel_rfl)) (by decide) (by kernel_rfl) (by decide) (by kernel_rfl) (by kernel_rfl) (by kernel_rfl) (by kernel_rfl) (by kernel_rfl)
theorem step_34 : Step wS Q 34 := st_insert (k := 7) (t := 38) (s := ⟨.name, [(.opt .type)], none, 0⟩) (.of (by kernel_rfl)) (List.mem_of_getElem? (i := 6) (by kernel_rfl)) (by decide) (by kernel_rfl) (by kernel_rfl) (by kernel_rfl)
theorem step_35 : Step wS Q 35 := st_load (d := 39) (.of (by kernel_rfl)) (by decide) (by kernel_rfl) (by decide) (by kernel_rfl) (by kernel_rfl)
theorem step_36 : Step wS Q 36 := st_move (d := 40) (t := 4) (.of (by kernel_rfl)) (by decide) (by kernel_rfl) (by decide) (by kernel_rfl) (by kernel_rfl)
theorem step_37 : Step wS Q 37 := st_tests1 (d := 41) (x1 := .tmp 40) (t1 := (.opt .type)) (.of (by kernel_rfl)) (by decide) (by kernel_rfl) (by decide) (by kernel_rfl) (by kernel_rfl) (by kernel_rfl)
theorem step_38 : Step wS Q 38 := st_build_01 (d := 42) (x := .tmp 39) (q := .name) (y := .tmp 41) (l := [(.opt .type)]) (.of (by kernel_rfl)) (by decide) (by kernel_rfl) (by decide) (by kernel_rfl) (by kernel_rfl) (by kernel_rfl) (by kernel_rfl) (by kernel_rfl)
theorem step_39 : Step wS Q 39 := st_insert (k := 8) (t := 42) (s := ⟨.name, [(.opt .type)], none, 0⟩) (.of (by kernel_rfl)) (List.mem_of_getElem? (i := 7) (by kernel_rfl)) (by decide) (by kernel_rfl) (by kernel_rfl) (by kernel_rfl)
theorem step_40 : Step wS Q 40 := st_makeFunc (d := 43) (.of (by kernel_rfl)) (by decide) (by kernel_rfl) (by decide) (by kernel_rfl) (by kernel_rfl) (by kernel_rfl)
theorem step_41 : Step wS Q 41 := st_build_0 (d := 44) (x := .tmp 43) (q := .scalar) (.of (by kernel_rfl)) (by decide) (by kernel_rfl) (by decide) (by kernel_rfl) (by kernel_rfl)  (by kernel_rfl)
theorem step_42 : Step wS Q 42 := st_insert (k := 9) (t := 44) (s := ⟨.scalar, [], none, 0⟩) (.of (by kernel_rfl)) (List.mem_of_getElem? (i := 8) (by kernel_rfl)) (by decide) (by kernel_rfl) (by kernel_rfl) (by kernel_rfl)
theorem step_43 : Step wS Q 43 := st_build_0 (d := 45) (x := .func 67) (q := .number) (.of (by kernel_rfl)) (by decide) (by kernel_rfl) (by decide) (by kernel_rfl) (by kernel_rfl)  (by kernel_rfl)
theorem step_44 : Step wS Q 44 := st_insert (k := 10) (t := 45) (s := ⟨.number, [], none, 0⟩) (.of (by kernel_rfl)) (List.mem_of_getElem? (i := 9) (by kernel_rfl)) (by decide) (by kernel_rfl) (by kernel_rfl) (by kernel_rfl)
theorem step_45 : Step wS Q 45 := st_build_02 (d := 46) (x := .func 65) (q := .empty) (y := .func 46) (t := .stmt) (.of (by kernel_rfl)) (by decide) (by kernel_rfl) (by decide) (by kernel_rfl) (by kernel_rfl) (by kernel_rfl) (by kernel_rfl) (by kernel_rfl)
theorem step_46 : Step wS Q 46 := st_insert (k := 11) (t := 46) (s := ⟨.empty, [], (some .stmt), 0⟩) (.of (by kernel_rfl)) (List.mem_of_getElem? (i := 10) (by kernel_rfl)) (by decide) (by kernel_rfl) (by kernel_rfl) (by kernel_rfl)
theorem step_47 : Step wS Q 47 := st_load (d := 47) (.of (by kernel_rfl)) (by decide) (by kernel_rfl) (by decide) (by kernel_rfl) (by kernel_rfl)
theorem step_48 : Step wS Q 48 := st_move (d := 48) (t := 4) (.of (by kernel_rfl)) (by decide) (by kernel_rfl) (by decide) (by kernel_rfl) (by kernel_rfl)
theorem step_49 : Step wS Q 49 := st_move (d := 49) (t := 3) (.of (by kernel_rfl)) (by decide) (by kernel_rfl) (by decide) (by kernel_rfl) (by kernel_rfl)
theorem step_50 : Step wS Q 50 := st_tests2 (d := 50) (x1 := .tmp 48) (t1 := (.opt .type)) (x2 := .tmp 49) (t2 := .expr) (.of (by kernel_rfl)) (by decide) (by kernel_rfl) (by decide) (by kernel_rfl) (by kernel_rfl) (by kernel_rfl) (by kernel_rfl) (by kernel_rfl)
theorem step_51 : Step wS Q 51 := st_build_01 (d := 51) (x := .tmp 47) (q := .name) (y := .tmp 50) (l := [(.opt .type), .expr]) (.of (by kernel_rfl)) (by decide) (by kernel_rfl) (by decide) (by kernel_rfl) (by kernel_rfl) (by kernel_rfl) (by kernel_rfl) (by kernel_rfl)
theorem step_52 : Step wS Q 52 := st_insert (k := 12) (t := 51) (s := ⟨.name, [(.opt .type), .expr], none, 0⟩) (.of (by kernel_rfl)) (List.mem_of_getElem? (i := 11) (by kernel_rfl)) (by decide) (by kernel_rfl) (by kernel_rfl) (by kernel_rfl)
theorem step_53 : Step wS Q 53 := st_move (d := 52) (t := 3) (.of (by kernel_rfl)) (by decide) (by kernel_rfl) (by decide) (by kernel_rfl) (by kernel_rfl)
theorem step_54 : Step wS Q 54 := st_tests2 (d := 53) (x1 := .func 68) (t1 := .place) (x2 := .tmp 52) (t2 := .expr) (.of (by kernel_rfl)) (by decide) (by kernel_rfl) (by decide) (by kernel_rfl) (by kernel_rfl) (by kernel_rfl) (by kernel_rfl) (by kernel_rfl)
theorem step_55 : Step wS Q 55 := st_build_01 (d := 54) (x := .func 65) (q := .empty) (y := .tmp 53) (l := [.place, .expr]) (.of (by kernel_rfl)) (by decide) (by kernel_rfl) (by decide) (by kernel_rfl) (by kernel_rfl) (by kernel_rfl) (by kernel_rfl) (by kernel_rfl)
theorem step_56 : Step wS Q 56 := st_insert (k := 13) (t := 54) (s := ⟨.empty, [.place, .expr], none, 0⟩) (.of (by kernel_rfl)) (List.mem_of_getElem? (i := 12) (by kernel_rfl)) (by decide) (by kernel_rfl) (by kernel_rfl) (by kernel_rfl)
theorem step_57 : Step wS Q 57 := st_move (d := 55) (t := 3) (.of (by kernel_rfl)) (by decide) (by kernel_rfl) (by decide) (by kernel_rfl) (by kernel_rfl)
theorem step_58 : Step wS Q 58 := st_move (d := 56) (t := 2) (.of (by kernel_rfl)) (by decide) (by kernel_rfl) (by decide) (by kernel_rfl) (by kernel_rfl)
theorem step_59 : Step wS Q 59 := st_ints2 (d := 57) (k1 := 11) (k2 := 14) (.of (by kernel_rfl)) (by decide) (by kernel_rfl) (by decide) (by kernel_rfl)
theorem step_60 : Step wS Q 60 := st_call61 (d := 58) (t := 57) (l := [11, 14]) (.of (by kernel_rfl)) (by decide) (by kernel_rfl) (by decide) (by kernel_rfl) (by kernel_rfl) (by decide) (by kernel_rfl)
theorem step_61 : Step wS Q 61 := st_call62 (d := 59) (t := 58) (u := (.one [11, 14])) (.of (by kernel_rfl)) (by decide) (by kernel_rfl) (by decide) (by kernel_rfl) (by kernel_rfl) (by kernel_rfl)
theorem step_62 : Step wS Q 62 := st_tests3 (d := 60) (x1 := .tmp 55) (t1 := .expr) (x2 := .tmp 56) (t2 := (.one [11])) (x3 := .tmp 59) (t3 := (.opt (.one [11, 14]))) (.of (by kernel_rfl)) (by decide) (by kernel_rfl) (by decide) (by kernel_rfl) (by kernel_rfl) (by kernel_rfl) (by kernel_rfl) (by kernel_rfl) (by kernel_rfl) (by kernel_rfl)
theorem step_63 : Step wS Q 63 := st_build_01 (d := 61) (x := .func 65) (q := .empty) (y := .tmp 60) (l := [.expr, (.one [11]), (.opt (.one [11, 14]))]) (.of (by kernel_rfl)) (by decide) (by kernel_rfl) (by decide) (by kernel_rfl) (by kernel_rfl) (by kernel_rfl) (by kernel_rfl) (by kernel_rfl)
theorem step_64 : Step wS Q 64 := st_insert (k := 14) (t := 61) (s := ⟨.empty, [.expr, (.one [11]), (.opt (.one [11, 14]))], none, 0⟩) (.of (by kernel_rfl)) (List.mem_of_getElem? (i := 13) (by kernel_rfl)) (by decide) (by kernel_rfl) (by kernel_rfl) (by kernel_rfl)
theorem step_65 : Step wS Q 65 := st_move (d := 62) (t := 3) (.of (by kernel_rfl)) (by decide) (by kernel_rfl) (by decide) (by kernel_rfl) (by kernel_rfl)
theorem step_66 : Step wS Q 66 := st_move (d := 63) (t := 2) (.of (by kernel_rfl)) (by decide) (by kernel_rfl) (by decide) (by kernel_rfl) (by kernel_rfl)
theorem step_67 : Step wS Q 67 := st_tests2 (d := 64) (x1 := .tmp 62) (t1 := .expr) (x2 := .tmp 63) (t2 := (.one [11])) (.of (by kernel_rfl)) (by decide) (by kernel_rfl) (by decide) (by kernel_rfl) (by kernel_rfl) (by kernel_rfl) (by kernel_rfl) (by kernel_rfl)
theorem step_68 : Step wS Q 68 := st_build_01 (d := 65) (x := .func 65) (q := .empty) (y := .tmp 64) (l := [.expr, (.one [11])]) (.of (by kernel_rfl)) (by decide) (by kernel_rfl) (by decide) (by kernel_rfl) (by kernel_rfl) (by kernel_rfl) (by kernel_rfl) (by kernel_rfl)
theorem step_69 : Step wS Q 69 := st_insert (k := 15) (t := 65) (s := ⟨.empty, [.expr, (.one [11])], none, 0⟩) (.of (by kernel_rfl)) (List.mem_of_getElem? (i := 14) (by kernel_rfl)) (by decide) (by kernel_rfl) (by kernel_rfl) (by kernel_rfl)
theorem step_70 : Step wS Q 70 := st_load (d := 66) (.of (by kernel_rfl)) (by decide) (by kernel_rfl) (by decide) (by kernel_rfl) (by kernel_rfl)
theorem step_71 : Step wS Q 71 := st_move (d := 67) (t := 3) (.of (by kernel_rfl)) (by decide) (by kernel_rfl) (by decide) (by kernel_rfl) (by kernel_rfl)
theorem step_72 : Step wS Q 72 := st_move (d := 68) (t := 3) (.of (by kernel_rfl)) (by decide) (by kernel_rfl) (by decide) (by kernel_rfl) (by kernel_rfl)
theorem step_73 : Step wS Q 73 := st_move (d := 69) (t := 2) (.of (by kernel_rfl)) (by decide) (by kernel_rfl) (by decide) (by kernel_rfl) (by kernel_rfl)
theorem step_74 : Step wS Q 74 := st_tests3 (d := 70) (x1 := .tmp 67) (t1 := .expr) (x2 := .tmp 68) (t2 := .expr) (x3 := .tmp 69) (t3 := (.one [11])) (.of (by kernel_rfl)) (by decide) (by kernel_rfl) (by decide) (by kernel_rfl) (by kernel_rfl) (by kernel_rfl) (by kernel_rfl) (by kernel_rfl) (by kernel_rfl) (by kernel_rfl)
theorem step_75 : Step wS Q 75 := st_build_01 (d := 71) (x := .tmp 66) (q := .name) (y := .tmp 70) (l := [.expr, .expr, (.one [11])]) (.of (by kernel_rfl)) (by decide) (by kernel_rfl) (by decide) (by kernel_rfl) (by kernel_rfl) (by kernel_rfl) (by kernel_rfl) (by kernel_rfl)
theorem step_76 : Step wS Q 76 := st_insert (k := 16) (t := 71) (s := ⟨.name, [.expr, .expr, (.one [11])], none, 0⟩) (.of (by kernel_rfl)) (List.mem_of_getElem? (i := 15) (by kernel_rfl)) (by decide) (by kernel_rfl) (by kernel_rfl) (by kernel_rfl)
theorem step_77 : Step wS Q 77 := st_move (d := 72) (t := 3) (.of (by kernel_rfl)) (by decide) (by kernel_rfl) (by decide) (by kernel_rfl) (by kernel_rfl)
theorem step_78 : Step wS Q 78 := st_call62 (d := 73) (t := 72) (u := .expr) (.of (by kernel_rfl)) (by decide) (by kernel_rfl) (by decide) (by kernel_rfl) (by kernel_rfl) (by kernel_rfl)
theorem step_79 : Step wS Q 79 := st_tests1 (d := 74) (x1 := .tmp 73) (t1 := (.opt .expr)) (.of (by kernel_rfl)) (by decide) (by kernel_rfl) (by decide) (by kernel_rfl) (by kernel_rfl) (by kernel_rfl)
theorem step_80 : Step wS Q 80 := st_build_01 (d := 75) (x := .func 65) (q := .empty) (y := .tmp 74) (l := [(.opt .expr)]) (.of (by kernel_rfl)) (by decide) (by kernel_rfl) (by decide) (by kernel_rfl) (by kernel_rfl) (by kernel_rfl) (by kernel_rfl) (by kernel_rfl)
theorem step_81 : Step wS Q 81 := st_insert (k := 17) (t := 75) (s := ⟨.empty, [(.opt .expr)], none, 0⟩) (.of (by kernel_rfl)) (List.mem_of_getElem? (i := 16) (by kernel_rfl)) (by decide) (by kernel_rfl) (by kernel_rfl) (by kernel_rfl)
theorem step_82 : Step wS Q 82 := st_move (d := 76) (t := 3) (.of (by kernel_rfl)) (by decide) (by kernel_rfl) (by decide) (by kernel_rfl) (by kernel_rfl)
theorem step_83 : Step wS Q 83 := st_tests1 (d := 77) (x1 := .tmp 76) (t1 := .expr) (.of (by kernel_rfl)) (by decide) (by kernel_rfl) (by decide) (by kernel_rfl) (by kernel_rfl) (by kernel_rfl)
theorem step_84 : Step wS Q 84 := st_build_01 (d := 78) (x := .func 65) (q := .empty) (y := .tmp 77) (l := [.expr]) (.of (by kernel_rfl)) (by decide) (by kernel_rfl) (by decide) (by kernel_rfl) (by kernel_rfl) (by kernel_rfl) (by kernel_rfl) (by kernel_rfl)
theorem step_85 : Step wS Q 85 := st_insert (k := 18) (t := 78) (s := ⟨.empty, [.expr], none, 0⟩) (.of (by kernel_rfl)) (List.mem_of_getElem? (i := 17) (by kernel_rfl)) (by decide) (by kernel_rfl) (by kernel_rfl) (by kernel_rfl)
theorem step_86 : Step wS Q 86 := st_load (d := 79) (.of (by kernel_rfl)) (by decide) (by kernel_rfl) (by decide) (by kernel_rfl) (by kernel_rfl)
theorem step_87 : Step wS Q 87 := st_move (d := 80) (t := 3) (.of (by kernel_rfl)) (by decide) (by kernel_rfl) (by decide) (by kernel_rfl) (by kernel_rfl)
theorem step_88 : Step wS Q 88 := st_build_02 (d := 81) (x := .tmp 79) (q := .name) (y := .tmp 80) (t := .expr) (.of (by kernel_rfl)) (by decide) (by kernel_rfl) (by decide) (by kernel_rfl) (by kernel_rfl) (by kernel_rfl) (by kernel_rfl) (by kernel_rfl)
theorem step_89 : Step wS Q 89 := st_insert (k := 19) (t := 81) (s := ⟨.name, [], (some .expr), 0⟩) (.of (by kernel_rfl)) (List.mem_of_getElem? (i := 18) (by kernel_rfl)) (by decide) (by kernel_rfl) (by kernel_rfl) (by kernel_rfl)
theorem step_90 : Step wS Q 90 := st_load (d := 82) (.of (by kernel_rfl)) (by decide) (by kernel_rfl) (by decide) (by kernel_rfl) (by kernel_rfl)
theorem step_91 : Step wS Q 91 := st_build_0 (d := 83) (x := .tmp 82) (q := .name) (.of (by kernel_rfl)) (by decide) (by kernel_rfl) (by decide) (by kernel_rfl) (by kernel_rfl)  (by kernel_rfl)
theorem step_92 : Step wS Q 92 := st_insert (k := 20) (t := 83) (s := ⟨.name, [], none, 0⟩) (.of (by kernel_rfl)) (List.mem_of_getElem? (i := 19) (by kernel_rfl)) (by decide) (by kernel_rfl) (by kernel_rfl) (by kernel_rfl)
theorem step_93 : Step wS Q 93 := st_ints1 (d := 84) (k1 := 20) (.of (by kernel_rfl)) (by decide) (by kernel_rfl) (by decide) (by kernel_rfl)
theorem step_94 : Step wS Q 94 := st_call61 (d := 85) (t := 84) (l := [20]) (.of (by kernel_rfl)) (by decide) (by kernel_rfl) (by decide) (by kernel_rfl) (by kernel_rfl) (by decide) (by kernel_rfl)
theorem step_95 : Step wS Q 95 := st_move (d := 86) (t := 3) (.of (by kernel_rfl)) (by decide) (by kernel_rfl) (by decide) (by kernel_rfl) (by kernel_rfl)
theorem step_96 : Step wS Q 96 := st_tests2 (d := 87) (x1 := .tmp 85) (t1 := (.one [20])) (x2 := .tmp 86) (t2 := .expr) (.of (by kernel_rfl)) (by decide) (by kernel_rfl) (by decide) (by kernel_rfl) (by kernel_rfl) (by kernel_rfl) (by kernel_rfl) (by kernel_rfl)
theorem step_97 : Step wS Q 97 := st_build_01 (d := 88) (x := .func 65) (q := .empty) (y := .tmp 87) (l := [(.one [20]), .expr]) (.of (by kernel_rfl)) (by decide) (by kernel_rfl) (by decide) (by kernel_rfl) (by kernel_rfl) (by kernel_rfl) (by kernel_rfl) (by kernel_rfl)
theorem step_98 : Step wS Q 98 := st_insert (k := 21) (t := 88) (s := ⟨.empty, [(.one [20]), .expr], none, 0⟩) (.of (by kernel_rfl)) (List.mem_of_getElem? (i := 20) (by kernel_rfl)) (by decide) (by kernel_rfl) (by kernel_rfl) (by kernel_rfl)
theorem step_99 : Step wS Q 99 := st_load (d := 89) (.of (by kernel_rfl)) (by decide) (by kernel_rfl) (by decide) (by kernel_rfl) (by kernel_rfl)
theorem step_100 : Step wS Q 100 := st_ints1 (d := 90) (k1 := 20) (.of (by kernel_rfl)) (by decide) (by kernel_rfl) (by decide) (by kernel_rfl)
theorem step_101 : Step wS Q 101 := st_call61 (d := 91) (t := 90) (l := [20]) (.of (by kernel_rfl)) (by decide) (by kernel_rfl) (by decide) (by kernel_rfl) (by kernel_rfl) (by decide) (by kernel_rfl)
theorem step_102 : Step wS Q 102 := st_tests1 (d := 92) (x1 := .tmp 91) (t1 := (.one [20])) (.of (by kernel_rfl)) (by decide) (by kernel_rfl) (by decide) (by kernel_rfl) (by kernel_rfl) (by kernel_rfl)
theorem step_103 : Step wS Q 103 := st_build_01 (d := 93) (x := .tmp 89) (q := .name) (y := .tmp 92) (l := [(.one [20])]) (.of (by kernel_rfl)) (by decide) (by kernel_rfl) (by decide) (by kernel_rfl) (by kernel_rfl) (by kernel_rfl) (by kernel_rfl) (by kernel_rfl)
theorem step_104 : Step wS Q 104 := st_insert (k := 22) (t := 93) (s := ⟨.name, [(.one [20])], none, 0⟩) (.of (by kernel_rfl)) (List.mem_of_getElem? (i := 21) (by kernel_rfl)) (by decide) (by kernel_rfl) (by kernel_rfl) (by kernel_rfl)
theorem step_105 : Step wS Q 105 := st_ints1 (d := 94) (k1 := 20) (.of (by kernel_rfl)) (by decide) (by kernel_rfl) (by decide) (by kernel_rfl)
theorem step_106 : Step wS Q 106 := st_call61 (d := 95) (t := 94) (l := [20]) (.of (by kernel_rfl)) (by decide) (by kernel_rfl) (by decide) (by kernel_rfl) (by kernel_rfl) (by decide) (by kernel_rfl)
theorem step_107 : Step wS Q 107 := st_tests1 (d := 96) (x1 := .tmp 95) (t1 := (.one [20])) (.of (by kernel_rfl)) (by decide) (by kernel_rfl) (by decide) (by kernel_rfl) (by kernel_rfl) (by kernel_rfl)
theorem step_108 : Step wS Q 108 := st_build_01 (d := 97) (x := .func 65) (q := .empty) (y := .tmp 96) (l := [(.one [20])]) (.of (by kernel_rfl)) (by decide) (by kernel_rfl) (by decide) (by kernel_rfl) (by kernel_rfl) (by kernel_rfl) (by kernel_rfl) (by kernel_rfl)
theorem step_109 : Step wS Q 109 := st_insert (k := 23) (t := 97) (s := ⟨.empty, [(.one [20])], none, 0⟩) (.of (by kernel_rfl)) (List.mem_of_getElem? (i := 22) (by kernel_rfl)) (by decide) (by kernel_rfl) (by kernel_rfl) (by kernel_rfl)
theorem step_110 : Step wS Q 110 := st_build_0 (d := 98) (x := .func 67) (q := .number) (.of (by kernel_rfl)) (by decide) (by kernel_rfl) (by decide) (by kernel_rfl) (by kernel_rfl)  (by kernel_rfl)
theorem step_111 : Step wS Q 111 := st_insert (k := 24) (t := 98) (s := ⟨.number, [], none, 0⟩) (.of (by kernel_rfl)) (List.mem_of_getElem? (i := 23) (by kernel_rfl)) (by decide) (by kernel_rfl) (by kernel_rfl) (by kernel_rfl)
theorem step_112 : Step wS Q 112 := st_strs2 (d := 99) (k1 := (⟨#[116, 114, 117, 101]⟩ : ByteArray)) (k2 := (⟨#[102, 97, 108, 115, 101]⟩ : ByteArray)) (.of (by kernel_rfl)) (by decide) (by kernel_rfl) (by decide) (by kernel_rfl)
theorem step_113 : Step wS Q 113 := st_call64 (d := 100) (t := 99) (l := [(⟨#[116, 114, 117, 101]⟩ : ByteArray), (⟨#[102, 97, 108, 115, 101]⟩ : ByteArray)]) (.of (by kernel_rfl)) (by decide) (by kernel_rfl) (by decide) (by kernel_rfl) (by kernel_rfl) (by decide) (by kernel_rfl)
theorem step_114 : Step wS Q 114 := st_build_0 (d := 101) (x := .tmp 100) (q := (.word [(⟨#[116, 114, 117, 101]⟩ : ByteArray), (⟨#[102, 97, 108, 115, 101]⟩ : ByteArray)])) (.of (by kernel_rfl)) (by decide) (by kernel_rfl) (by decide) (by kernel_rfl) (by kernel_rfl)  (by kernel_rfl)
theorem step_115 : Step wS Q 115 := st_insert (k := 25) (t := 101) (s := ⟨(.word [(⟨#[116, 114, 117, 101]⟩ : ByteArray), (⟨#[102, 97, 108, 115, 101]⟩ : ByteArray)]), [], none, 0⟩) (.of (by kernel_rfl)) (List.mem_of_getElem? (i := 24) (by kernel_rfl)) (by decide) (by kernel_rfl) (by kernel_rfl) (by kernel_rfl)
theorem step_116 : Step wS Q 116 := st_move (d := 102) (t := 3) (.of (by kernel_rfl)) (by decide) (by kernel_rfl) (by decide) (by kernel_rfl) (by kernel_rfl)
theorem step_117 : Step wS Q 117 := st_build_023 (d := 103) (x := .func 65) (q := .empty) (y := .tmp 102) (t := .expr) (k := 1) (.of (by kernel_rfl)) (by decide) (by kernel_rfl) (by decide) (by kernel_rfl) (by kernel_rfl) (by kernel_rfl) (by kernel_rfl) (by kernel_rfl)
theorem step_118 : Step wS Q 118 := st_insert (k := 26) (t := 103) (s := ⟨.empty, [], (some .expr), 1⟩) (.of (by kernel_rfl)) (List.mem_of_getElem? (i := 25) (by kernel_rfl)) (by decide) (by kernel_rfl) (by kernel_rfl) (by kernel_rfl)
theorem step_119 : Step wS Q 119 := st_load (d := 104) (.of (by kernel_rfl)) (by decide) (by kernel_rfl) (by decide) (by kernel_rfl) (by kernel_rfl)
theorem step_120 : Step wS Q 120 := st_move (d := 105) (t := 3) (.of (by kernel_rfl)) (by decide) (by kernel_rfl) (by decide) (by kernel_rfl) (by kernel_rfl)
theorem step_121 : Step wS Q 121 := st_build_02 (d := 106) (x := .tmp 104) (q := .name) (y := .tmp 105) (t := .expr) (.of (by kernel_rfl)) (by decide) (by kernel_rfl) (by decide) (by kernel_rfl) (by kernel_rfl) (by kernel_rfl) (by kernel_rfl) (by kernel_rfl)
theorem step_122 : Step wS Q 122 := st_insert (k := 27) (t := 106) (s := ⟨.name, [], (some .expr), 0⟩) (.of (by kernel_rfl)) (List.mem_of_getElem? (i := 26) (by kernel_rfl)) (by decide) (by kernel_rfl) (by kernel_rfl) (by kernel_rfl)
theorem step_123 : Step wS Q 123 := st_strs2 (d := 107) (k1 := (⟨#[45]⟩ : ByteArray)) (k2 := (⟨#[110, 111, 116]⟩ : ByteArray)) (.of (by kernel_rfl)) (by decide) (by kernel_rfl) (by decide) (by kernel_rfl)
theorem step_124 : Step wS Q 124 := st_call64 (d := 108) (t := 107) (l := [(⟨#[45]⟩ : ByteArray), (⟨#[110, 111, 116]⟩ : ByteArray)]) (.of (by kernel_rfl)) (by decide) (by kernel_rfl) (by decide) (by kernel_rfl) (by kernel_rfl) (by decide) (by kernel_rfl)
theorem step_125 : Step wS Q 125 := st_move (d := 109) (t := 3) (.of (by kernel_rfl)) (by decide) (by kernel_rfl) (by decide) (by kernel_rfl) (by kernel_rfl)
theorem step_126 : Step wS Q 126 := st_tests1 (d := 110) (x1 := .tmp 109) (t1 := .expr) (.of (by kernel_rfl)) (by decide) (by kernel_rfl) (by decide) (by kernel_rfl) (by kernel_rfl) (by kernel_rfl)
theorem step_127 : Step wS Q 127 := st_build_01 (d := 111) (x := .tmp 108) (q := (.word [(⟨#[45]⟩ : ByteArray), (⟨#[110, 111, 116]⟩ : ByteArray)])) (y := .tmp 110) (l := [.expr]) (.of (by kernel_rfl)) (by decide) (by kernel_rfl) (by decide) (by kernel_rfl) (by kernel_rfl) (by kernel_rfl) (by kernel_rfl) (by kernel_rfl)
theorem step_128 : Step wS Q 128 := st_insert (k := 28) (t := 111) (s := ⟨(.word [(⟨#[45]⟩ : ByteArray), (⟨#[110, 111, 116]⟩ : ByteArray)]), [.expr], none, 0⟩) (.of (by kernel_rfl)) (List.mem_of_getElem? (i := 27) (by kernel_rfl)) (by decide) (by kernel_rfl) (by kernel_rfl) (by kernel_rfl)
theorem step_129 : Step wS Q 129 := st_strs13 (d := 112) (k0 := (⟨#[111, 114]⟩ : ByteArray)) (k1 := (⟨#[97, 110, 100]⟩ : ByteArray)) (k2 := (⟨#[61, 61]⟩ : ByteArray)) (k3 := (⟨#[33, 61]⟩ : ByteArray)) (k4 := (⟨#[60]⟩ : ByteArray)) (k5 := (⟨#[60, 61]⟩ : ByteArray)) (k6 := (⟨#[62]⟩ : ByteArray)) (k7 := (⟨#[62, 61]⟩ : ByteArray)) (k8 := (⟨#[43]⟩ : ByteArray)) (k9 := (⟨#[45]⟩ : ByteArray)) (k10 := (⟨#[42]⟩ : ByteArray)) (k11 := (⟨#[47]⟩ : ByteArray)) (k12 := (⟨#[37]⟩ : ByteArray)) (.of (by kernel_rfl)) (by decide) (by kernel_rfl) (by decide) (by kernel_rfl)
theorem step_130 : Step wS Q 130 := st_call64 (d := 113) (t := 112) (l := [(⟨#[111, 114]⟩ : ByteArray), (⟨#[97, 110, 100]⟩ : ByteArray), (⟨#[61, 61]⟩ : ByteArray), (⟨#[33, 61]⟩ : ByteArray), (⟨#[60]⟩ : ByteArray), (⟨#[60, 61]⟩ : ByteArray), (⟨#[62]⟩ : ByteArray), (⟨#[62, 61]⟩ : ByteArray), (⟨#[43]⟩ : ByteArray), (⟨#[45]⟩ : ByteArray), (⟨#[42]⟩ : ByteArray), (⟨#[47]⟩ : ByteArray), (⟨#[37]⟩ : ByteArray)]) (.of (by kernel_rfl)) (by decide) (by kernel_rfl) (by decide) (by kernel_rfl) (by kernel_rfl) (by decide) (by kernel_rfl)
theorem step_131 : Step wS Q 131 := st_move (d := 114) (t := 3) (.of (by kernel_rfl)) (by decide) (by kernel_rfl) (by decide) (by kernel_rfl) (by kernel_rfl)
theorem step_132 : Step wS Q 132 := st_move (d := 115) (t := 3) (.of (by kernel_rfl)) (by decide) (by kernel_rfl) (by decide) (by kernel_rfl) (by kernel_rfl)
theorem step_133 : Step wS Q 133 := st_tests2 (d := 116) (x1 := .tmp 114) (t1 := .expr) (x2 := .tmp 115) (t2 := .expr) (.of (by kernel_rfl)) (by decide) (by kernel_rfl) (by decide) (by kernel_rfl) (by kernel_rfl) (by kernel_rfl) (by kernel_rfl) (by kernel_rfl)
theorem step_134 : Step wS Q 134 := st_build_01 (d := 117) (x := .tmp 113) (q := (.word [(⟨#[111, 114]⟩ : ByteArray), (⟨#[97, 110, 100]⟩ : ByteArray), (⟨#[61, 61]⟩ : ByteArray), (⟨#[33, 61]⟩ : ByteArray), (⟨#[60]⟩ : ByteArray), (⟨#[60, 61]⟩ : ByteArray), (⟨#[62]⟩ : ByteArray), (⟨#[62, 61]⟩ : ByteArray), (⟨#[43]⟩ : ByteArray), (⟨#[45]⟩ : ByteArray), (⟨#[42]⟩ : ByteArray), (⟨#[47]⟩ : ByteArray), (⟨#[37]⟩ : ByteArray)])) (y := .tmp 116) (l := [.expr, .expr]) (.of (by kernel_rfl)) (by decide) (by kernel_rfl) (by decide) (by kernel_rfl) (by kernel_rfl) (by kernel_rfl) (by kernel_rfl) (by kernel_rfl)
theorem step_135 : Step wS Q 135 := st_insert (k := 29) (t := 117) (s := ⟨(.word [(⟨#[111, 114]⟩ : ByteArray), (⟨#[97, 110, 100]⟩ : ByteArray), (⟨#[61, 61]⟩ : ByteArray), (⟨#[33, 61]⟩ : ByteArray), (⟨#[60]⟩ : ByteArray), (⟨#[60, 61]⟩ : ByteArray), (⟨#[62]⟩ : ByteArray), (⟨#[62, 61]⟩ : ByteArray), (⟨#[43]⟩ : ByteArray), (⟨#[45]⟩ : ByteArray), (⟨#[42]⟩ : ByteArray), (⟨#[47]⟩ : ByteArray), (⟨#[37]⟩ : ByteArray)]), [.expr, .expr], none, 0⟩) (.of (by kernel_rfl)) (List.mem_of_getElem? (i := 28) (by kernel_rfl)) (by decide) (by kernel_rfl) (by kernel_rfl) (by kernel_rfl)
theorem step_136 : Step wS Q 136 := st_move (d := 118) (t := 11) (.of (by kernel_rfl)) (by decide) (by kernel_rfl) (by decide) (by kernel_rfl) (by kernel_rfl)
theorem step_137 : Step wS Q 137 := st_assign (d := 0) (t := 118) (.of (by kernel_rfl)) (by decide) (by kernel_rfl) (by decide) (by kernel_rfl) (by kernel_rfl)
theorem steps : ∀ i ∈ [0, 1, 2, 3, 4, 5, 6, 7, 8, 9, 10, 11, 12, 13, 14, 15, 16, 17, 18, 19, 20, 21, 22, 23, 24, 25, 26, 27, 28, 29, 30, 31, 32, 33, 34, 35, 36, 37, 38, 39, 40, 41, 42, 43, 44, 45, 46, 47, 48, 49, 50, 51, 52, 53, 54, 55, 56, 57, 58, 59, 60, 61, 62, 63, 64, 65, 66, 67, 68, 69, 70, 71, 72, 73, 74, 75, 76, 77, 78, 79, 80, 81, 82, 83, 84, 85, 86, 87, 88, 89, 90, 91, 92, 93, 94, 95, 96, 97, 98, 99, 100, 101, 102, 103, 104, 105, 106, 107, 108, 109, 110, 111, 112, 113, 114, 115, 116, 117, 118, 119, 120, 121, 122, 123, 124, 125, 126, 127, 128, 129, 130, 131, 132, 133, 134, 135, 136, 137], Step wS Q i :=
  List.forall_mem_cons.2 ⟨step_0, List.forall_mem_cons.2 ⟨step_1, List.forall_mem_cons.2 ⟨step_2, List.forall_mem_cons.2 ⟨step_3, List.forall_mem_cons.2 ⟨step_4, List.forall_mem_cons.2 ⟨step_5, List.forall_mem_cons.2 ⟨step_6, List.forall_mem_cons.2 ⟨step_7, List.forall_mem_cons.2 ⟨step_8, List.forall_mem_cons.2 ⟨step_9, List.forall_mem_cons.2 ⟨step_10, List.forall_mem_cons.2 ⟨step_11, List.forall_mem_cons.2 ⟨step_12, List.forall_mem_cons.2 ⟨step_13, List.forall_mem_cons.2 ⟨step_14, List.forall_mem_cons.2 ⟨step_15, List.forall_mem_cons.2 ⟨step_16, List.forall_mem_cons.2 ⟨step_17, List.forall_mem_cons.2 ⟨step_18, List.forall_mem_cons.2 ⟨step_19, List.forall_mem_cons.2 ⟨step_20, List.forall_mem_cons.2 ⟨step_21, List.forall_mem_cons.2 ⟨step_22, List.forall_mem_cons.2 ⟨step_23, List.forall_mem_cons.2 ⟨step_24, List.forall_mem_cons.2 ⟨step_25, List.forall_mem_cons.2 ⟨step_26, List.forall_mem_cons.2 ⟨step_27, List.forall_mem_cons.2 ⟨step_28, List.forall_mem_cons.2 ⟨step_29, List.forall_mem_cons.2 ⟨step_30, List.forall_mem_cons.2 ⟨step_31, List.forall_mem_cons.2 ⟨step_32, List.forall_mem_cons.2 ⟨step_33, List.forall_mem_cons.2 ⟨step_34, List.forall_mem_cons.2 ⟨step_35, List.forall_mem_cons.2 ⟨step_36, List.forall_mem_cons.2 ⟨step_37, List.forall_mem_cons.2 ⟨step_38, List.forall_mem_cons.2 ⟨step_39, List.forall_mem_cons.2 ⟨step_40, List.forall_mem_cons.2 ⟨step_41, List.forall_mem_cons.2 ⟨step_42, List.forall_mem_cons.2 ⟨step_43, List.forall_mem_cons.2 ⟨step_44, List.forall_mem_cons.2 ⟨step_45, List.forall_mem_cons.2 ⟨step_46, List.forall_mem_cons.2 ⟨step_47, List.forall_mem_cons.2 ⟨step_48, List.forall_mem_cons.2 ⟨step_49, List.forall_mem_cons.2 ⟨step_50, List.forall_mem_cons.2 ⟨step_51, List.forall_mem_cons.2 ⟨step_52, List.forall_mem_cons.2 ⟨step_53, List.forall_mem_cons.2 ⟨step_54, List.forall_mem_cons.2 ⟨step_55, List.forall_mem_cons.2 ⟨step_56, List.forall_mem_cons.2 ⟨step_57, List.forall_mem_cons.2 ⟨step_58, List.forall_mem_cons.2 ⟨step_59, List.forall_mem_cons.2 ⟨step_60, List.forall_mem_cons.2 ⟨step_61, List.forall_mem_cons.2 ⟨step_62, List.forall_mem_cons.2 ⟨step_63, List.forall_mem_cons.2 ⟨step_64, List.forall_mem_cons.2 ⟨step_65, List.forall_mem_cons.2 ⟨step_66, List.forall_mem_cons.2 ⟨step_67, List.forall_mem_cons.2 ⟨step_68, List.forall_mem_cons.2 ⟨step_69, List.forall_mem_cons.2 ⟨step_70, List.forall_mem_cons.2 ⟨step_71, List.forall_mem_cons.2 ⟨step_72, List.forall_mem_cons.2 ⟨step_73, List.forall_mem_cons.2 ⟨step_74, List.forall_mem_cons.2 ⟨step_75, List.forall_mem_cons.2 ⟨step_76, List.forall_mem_cons.2 ⟨step_77, List.forall_mem_cons.2 ⟨step_78, List.forall_mem_cons.2 ⟨step_79, List.forall_mem_cons.2 ⟨step_80, List.forall_mem_cons.2 ⟨step_81, List.forall_mem_cons.2 ⟨step_82, List.forall_mem_cons.2 ⟨step_83, List.forall_mem_cons.2 ⟨step_84, List.forall_mem_cons.2 ⟨step_85, List.forall_mem_cons.2 ⟨step_86, List.forall_mem_cons.2 ⟨step_87, List.forall_mem_cons.2 ⟨step_88, List.forall_mem_cons.2 ⟨step_89, List.forall_mem_cons.2 ⟨step_90, List.forall_mem_cons.2 ⟨step_91, List.forall_mem_cons.2 ⟨step_92, List.forall_mem_cons.2 ⟨step_93, List.forall_mem_cons.2 ⟨step_94, List.forall_mem_cons.2 ⟨step_95, List.forall_mem_cons.2 ⟨step_96, List.forall_mem_cons.2 ⟨step_97, List.forall_mem_cons.2 ⟨step_98, List.forall_mem_cons.2 ⟨step_99, List.forall_mem_cons.2 ⟨step_100, List.forall_mem_cons.2 ⟨step_101, List.forall_mem_cons.2 ⟨step_102, List.forall_mem_cons.2 ⟨step_103, List.forall_mem_cons.2 ⟨step_104, List.forall_mem_cons.2 ⟨step_105, List.forall_mem_cons.2 ⟨step_106, List.forall_mem_cons.2 ⟨step_107, List.forall_mem_cons.2 ⟨step_108, List.forall_mem_cons.2 ⟨step_109, List.forall_mem_cons.2 ⟨step_110, List.forall_mem_cons.2 ⟨step_111, List.forall_mem_cons.2 ⟨step_112, List.forall_mem_cons.2 ⟨step_113, List.forall_mem_cons.2 ⟨step_114, List.forall_mem_cons.2 ⟨step_115, List.forall_mem_cons.2 ⟨step_116, List.forall_mem_cons.2 ⟨step_117, List.forall_mem_cons.2 ⟨step_118, List.forall_mem_cons.2 ⟨step_119, List.forall_mem_cons.2 ⟨step_120, List.forall_mem_cons.2 ⟨step_121, List.forall_mem_cons.2 ⟨step_122, List.forall_mem_cons.2 ⟨step_123, List.forall_mem_cons.2 ⟨step_124, List.forall_mem_cons.2 ⟨step_125, List.forall_mem_cons.2 ⟨step_126, List.forall_mem_cons.2 ⟨step_127, List.forall_mem_cons.2 ⟨step_128, List.forall_mem_cons.2 ⟨step_129, List.forall_mem_cons.2 ⟨step_130, List.forall_mem_cons.2 ⟨step_131, List.forall_mem_cons.2 ⟨step_132, List.forall_mem_cons.2 ⟨step_133, List.forall_mem_cons.2 ⟨step_134, List.forall_mem_cons.2 ⟨step_135, List.forall_mem_cons.2 ⟨step_136, List.forall_mem_cons.2 ⟨step_137, fun _ h => (by cases h)⟩⟩⟩⟩⟩⟩⟩⟩⟩⟩⟩⟩⟩⟩⟩⟩⟩⟩⟩⟩⟩⟩⟩⟩⟩⟩⟩⟩⟩⟩⟩⟩⟩⟩⟩⟩⟩⟩⟩⟩⟩⟩⟩⟩⟩⟩⟩⟩⟩⟩⟩⟩⟩⟩⟩⟩⟩⟩⟩⟩⟩⟩⟩⟩⟩⟩⟩⟩⟩⟩⟩⟩⟩⟩⟩⟩⟩⟩⟩⟩⟩⟩⟩⟩⟩⟩⟩⟩⟩⟩⟩⟩⟩⟩⟩⟩⟩⟩⟩⟩⟩⟩⟩⟩⟩⟩⟩⟩⟩⟩⟩⟩⟩⟩⟩⟩⟩⟩⟩⟩⟩⟩⟩⟩⟩⟩⟩⟩⟩⟩⟩⟩⟩⟩⟩⟩⟩⟩
end

end Go.Proofs.Ytbheobngeocdfaa.PAll
namespace Go.Proofs.Ytbheobngeocdfaa.PAll
open Go.RowKit Go.Proofs.YtbheobngeocdfaaW.PrintWords Go.Proofs.YtbheobngeocdfaaW.PrintLast Go.Proofs.YtbheobngeocdfaaW.PrintMore
set_option linter.unusedVariables false
set_option linter.unusedSimpArgs false
set_option maxRecDepth 100000

/-- the map of all shapes -/
def IsShapes (w : World) (mb : Nat) : Prop := ∃ es clock, w.heap[mb]? = some (.map es clock) ∧
    (∀ e ∈ es.toList, ∃ x ∈ insL, e.key = .int .i64 x.2.1 ∧ IsShape w e.val x.2.2) ∧ (∀ x ∈ insL, ∃ e ∈ es.toList, e.key = .int .i64 x.2.1)

theorem after_low : (ops4.toList.zipIdx.all fun (o, i) => o.after.all fun e => !Region.binds .any e || decide (e.on < i)) = true := by kernel_rfl
theorem all_listed {listed : Array Bool} (h : Region.ready .any ops4 listed = []) : ∀ i, i < 138 → listed.getD i true = true := by
  intro i
  induction i using Nat.strongRecOn with
  | _ i ih =>
    intro hi
    cases hc : listed.getD i true with
    | true => rfl
    | false =>
      exfalso
      have hsz : ops4.size = 138 := by kernel_rfl
      have hio : ops4[i]? = some ops4[i] := Array.getElem?_eq_getElem (by omega)
      have hm : i ∈ Region.ready .any ops4 listed := by
        refine mem_ready.2 ⟨hc, ops4[i], hio, fun e he hb => ?_⟩
        have h1 := List.all_eq_true.1 after_low (ops4[i], i) (by
          rw [List.mem_zipIdx_iff_getElem?]; simpa using hio)
        have h2 := Array.all_eq_true_iff_forall_mem.1 h1 e he
        simp only [hb, Bool.not_true, Bool.false_or, decide_eq_true_eq] at h2
        have h3 := ih e.on h2 (by omega)
        rw [Array.getD_eq_getD_getElem?] at h3 ⊢
        cases hh : listed[e.on]? with
        | none =>
          exfalso
          have hls : listed.size ≤ e.on := by simpa using hh
          rw [Array.getD_eq_getD_getElem?, Array.getElem?_eq_none (by omega)] at hc
          cases hc
        | some b => rw [hh] at h3; exact h3
      rw [h] at hm
      cases hm

theorem produced : ((List.range 119).all fun t => (decide (1 ≤ t) && decide (t ≤ 10)) || (List.range 138).any fun i => ((ops4[i]?).bind (·.dst)) == some t) = true := by kernel_rfl
theorem ops4_size : ops4.size = 138 := by kernel_rfl
theorem Inv.start {w w' : World} {a : Act} (hd : a.defers = []) (hs : a.tmps.size = 119) (hb : Below w.heap.size w w')
    (h : ∀ t, 1 ≤ t → t ≤ 5 → Holds none w' (a.tmps.getD t undef) (spec t)) : Inv w (Array.replicate 138 false) a w' none := by
  have hfalse : ∀ i, i < 138 → (Array.replicate 138 false).getD i true = false := fun i hi => by
    rw [Array.getD_eq_getD_getElem?, Array.getElem?_replicate, if_pos hi]; rfl
  refine ⟨hd, hs, by simp, hb, fun t ht hall => ?_, fun _ h => (by cases h), fun _ => hfalse 0 (by omega), fun _ x hx => ?_, fun _ h => (by cases h)⟩
  · have hp := List.all_eq_true.1 produced t (List.mem_range.2 ht)
    simp only [Bool.or_eq_true, Bool.and_eq_true, decide_eq_true_eq] at hp
    rcases hp with ⟨h1, h2⟩ | hp
    · by_cases h5 : t ≤ 5
      · exact h t h1 h5
      · have : t = 6 ∨ t = 7 ∨ t = 8 ∨ t = 9 ∨ t = 10 := by omega
        rcases this with rfl | rfl | rfl | rfl | rfl <;> exact trivial
    · obtain ⟨i, hi, he⟩ := List.any_eq_true.1 hp
      have hi' := List.mem_range.1 hi
      have hio : ops4[i]? = some ops4[i] := Array.getElem?_eq_getElem (by rw [ops4_size]; exact hi')
      rw [hio] at he
      have := hall i _ hio (by simpa using he)
      rw [hfalse i hi'] at this; cases this
  · refine hfalse x.1 ?_
    have : (insL.all fun x => decide (x.1 < 138)) = true := by decide
    simpa using List.all_eq_true.1 this x hx

theorem Inv.finish {w w' : World} {listed : Array Bool} {a : Act} {mo : Option Nat} (hI : Inv w listed a w' mo) (hr : Region.ready .any ops4 listed = []) :
    ∃ mb, a.tmps.getD 0 undef = .map (some mb) ∧ IsShapes w' mb := by
  have hall := all_listed hr
  obtain ⟨mb, hmo, hv⟩ : Holds mo w' (a.tmps.getD 0 undef) .map := hI.tmps 0 (by omega) (fun i o hi _ => hall i (by rw [← ops4_size]; exact (Array.getElem?_eq_some_iff.1 hi).1))
  obtain ⟨_, es, clock, h1, h2, h3⟩ := hI.mapI mb hmo
  refine ⟨mb, hv, es, clock, h1, fun e he => ?_, fun x hx => h3 x hx (hall x.1 ?_)⟩
  · obtain ⟨x, hx, _, hk, hs⟩ := h2 e he
    exact ⟨x, hx, hk, hs⟩
  · have : (insL.all fun x => decide (x.1 < 138)) = true := by decide
    simpa using List.all_eq_true.1 this x hx

set_option maxHeartbeats 4000000 in
theorem shapes_calls (w : World) : Calls Try.prog 48 #[] w fun e w' => ∃ mb, e = .returned (.map (some mb)) ∧ IsShapes w' mb ∧ Below w.heap.size w w' := by
  have he61 := enters_of (P := Try.prog) Try.func61 (by kernel_rfl) rfl
  have he62 := enters_of (P := Try.prog) Try.func62 (by kernel_rfl) rfl
  have he64 := enters_of (P := Try.prog) Try.func64 (by kernel_rfl) rfl
  have hu52 := Try.underlying52
  have hu33 := Try.underlying33
  have hu75 := Try.underlying75
  have hu28 := Try.underlying28
  have hz3 := fun w => Try.zeroValue3 w
  have hz9 := fun w => Try.zeroValue9 w
  go_enter Try.func48, Try.ntmps48
  go_wp2_with fail
  have hbA : Below w.heap.size w ((w.alloc (Obj.cells #[Value.func (Fn.func 60) #[] #[]] 52)).alloc (Obj.cells #[Value.int IntKind.i64 11] 3)) := (below_new w _).alloc (by simp) _
  have hc1 : ((w.alloc (Obj.cells #[Value.func (Fn.func 60) #[] #[]] 52)).alloc (Obj.cells #[Value.int IntKind.i64 11] 3)).heap[w.heap.size]? = some (.cells #[Value.func (Fn.func 60) #[] #[]] 52) := blk_alloc (blk_new w _) _
  have hone := one_calls [11] (by decide) (some ⟨w.heap.size + 1, 0, none⟩) 1 ((w.alloc (Obj.cells #[Value.func (Fn.func 60) #[] #[]] 52)).alloc (Obj.cells #[Value.int IntKind.i64 11] 3)) (by
    have h := C_new (enc := Value.int .i64) (h1 := fun _ => rfl) (w.alloc (Obj.cells #[Value.func (Fn.func 60) #[] #[]] 52)) [11] 3 (by simp)
    rw [World.size_alloc] at h
    exact h) (Nat.le_refl _)
  refine hone.mono ?_
  clear hone
  rintro e w3 ⟨v1, rfl, ht1, hb3⟩
  replace hc1 := blk_below hc1 hb3
  have HB3 := Aside0.mk (hbA.trans (hb3.mono hbA.size))
  have HT1 := Aside0.mk ht1
  have HC1 := Aside0.mk hc1
  clear hbA hb3 ht1 hc1
  have hopt := optional_calls _ _ w3 (isTest_type w3)
  go_wp2_with fail
  refine hopt.mono ?_
  clear hopt
  rintro e w4 ⟨v2, rfl, ht2, hb4⟩
  replace HC1 := Aside0.mk (blk_below HC1.out hb4)
  replace HT1 := Aside0.mk (HT1.out.keep (KeepC.of_below hb4))
  replace HB3 := Aside0.mk (HB3.out.trans (hb4.mono HB3.out.size))
  have HT2 := Aside0.mk ht2
  clear hb4 ht2
  go_wp2_with fail
  have hb5 := below_new w4 (.cells #[.string wInt, .string wBool] 9)
  have hword := word_calls [wInt, wBool] (by decide) (some ⟨w4.heap.size, 0, none⟩) 2 (w4.alloc (.cells #[.string wInt, .string wBool] 9)) (C_new w4 [wInt, wBool] 9 (by simp)) (Nat.le_refl _)
  refine hword.mono ?_
  clear hword
  rintro e w6 ⟨v3, rfl, ht3, hb6⟩
  replace hb6 : Below w4.heap.size w4 w6 := hb5.trans (hb6.mono hb5.size)
  replace HC1 := Aside0.mk (blk_below HC1.out hb6)
  replace HT1 := Aside0.mk (HT1.out.keep (KeepC.of_below hb6))
  replace HT2 := Aside0.mk (HT2.out.keep (KeepC.of_below hb6))
  replace HB3 := Aside0.mk (HB3.out.trans (hb6.mono HB3.out.size))
  have HT3 := Aside0.mk ht3
  obtain ⟨f3, c3, rfl⟩ := isText_form ht3
  clear hb6 ht3 hb5
  go_wp2_with fail
  have hcell1 : (w6.alloc (Obj.cells #[Value.func f3 #[] c3] 52)).cell? ⟨w.heap.size, 0, none⟩ = some (.func (.func 60) #[] #[]) := (blk_cell (blk_alloc HC1.out _) 0).trans rfl
  have hcell5 : (w6.alloc (Obj.cells #[Value.func f3 #[] c3] 52)).cell? ⟨w6.heap.size, 0, none⟩ = some (.func f3 #[] c3) := (blk_cell (blk_new w6 _) 0).trans rfl
  have hkc := KeepC.alloc w6 (Obj.cells #[Value.func f3 #[] c3] 52)
  have hb7 := HB3.out.alloc HB3.out.size (Obj.cells #[Value.func f3 #[] c3] 52)
  have hT1 := HT1.out.keep hkc
  have hT2 := HT2.out.keep hkc
  have hT3 := HT3.out.keep hkc
  generalize w6.alloc (Obj.cells #[Value.func f3 #[] c3] 52) = w7 at hcell1 hcell5 hb7 hT1 hT2 hT3 ⊢
  clear hkc HC1 HT1 HT2 HT3 HB3
  refine wp_region_any (by kernel_rfl) ?_
  refine wpAny_inv (ops := ops4) (I := fun listed a w' => ∃ mo, Inv w listed a w' mo) ?hstep ?hdone 138 (Array.replicate 138 false) _ _ (List.range 138) ?hu (by simp) ⟨none, ?hI⟩
  case hstep =>
    rintro listed a w' i ⟨mo, hI⟩ hr
    have hi : i ∈ List.range 138 := by
      obtain ⟨_, o, ho, _⟩ := mem_ready.1 hr
      have := (Array.getElem?_eq_some_iff.1 ho).1
      rw [ops4_size] at this
      exact List.mem_range.2 this
    exact steps i (show i ∈ List.range 138 from hi) listed a w' mo hI hr
  case hdone =>
    rintro listed a w' ⟨mo, hI⟩ hr
    obtain ⟨mb, hv, hs⟩ := hI.finish hr
    refine ‹∀ (a : Act) (w : World), Code.wp Try.prog Code.ret _ a w → _› a w' ?_
    go_wp2
    refine bodyPost_ret (results_tmp (fn := Try.f48) (t := 0) rfl _ _ _) hI.defers ?_
    exact ⟨mb, by rw [hv], hs, hI.below⟩
  case hu =>
    intro i hi
    refine List.mem_range.2 ?_
    rcases Nat.lt_or_ge i 138 with h | h
    · exact h
    · rw [Array.getD_eq_getD_getElem?, Array.getElem?_eq_none (by simpa using h)] at hi; cases hi
  case hI =>
    have hkd : KeepC w7 { w7 with drawn := w7.drawn + 1 } := fun _ _ h _ => h
    refine Inv.start rfl rfl (hb7.trans ⟨rfl, rfl, rfl, Nat.le_refl _, fun _ _ => rfl⟩) (fun t h1 h5 => ?_)
    have : t = 1 ∨ t = 2 ∨ t = 3 ∨ t = 4 ∨ t = 5 := by omega
    rcases this with rfl | rfl | rfl | rfl | rfl
    · exact ⟨_, _, rfl, hcell1, isText_name _⟩
    · exact hT1.keep hkd
    · exact isTest_expr _
    · exact hT2.keep hkd
    · exact ⟨_, _, rfl, hcell5, hT3.keep hkd⟩
end Go.Proofs.Ytbheobngeocdfaa.PAll
namespace Go.Proofs.Ytbheobngeocdfaa.PAll
open Go.RowKit Go.Proofs.YtbheobngeocdfaaW.PrintWords Go.Proofs.YtbheobngeocdfaaW.PrintLast Go.Proofs.YtbheobngeocdfaaW.PrintMore
set_option linter.unusedVariables false
set_option linter.unusedSimpArgs false

/-- the shape of a kind -/
def shapeOf (k : Int) : Option Sh := (insL.find? fun x => x.2.1 == k).map (·.2.2)
def zero55 : Value := .agg #[.nilFunc, .slice none 0 0, .nilFunc, .int .i64 0]

theorem shapes_lookup (w : World) (mb : Nat) (hS : IsShapes w mb) (k : Int) :
    (∃ s v, shapeOf k = some s ∧ IsShape w v s ∧ ∀ ok, (Instr.lookup 56 (.map (some mb)) (.int .i64 k) ok).run Try.prog w = .ok (if ok then .tuple #[v, .bool true] else v) w) ∨
    (shapeOf k = none ∧ ∀ ok, (Instr.lookup 56 (.map (some mb)) (.int .i64 k) ok).run Try.prog w = .ok (if ok then .tuple #[zero55, .bool false] else zero55) w) := by
  obtain ⟨es, clock, hb, hes, hin⟩ := hS
  have hm := Try.underlying56
  have hk := Try.underlying3
  have hz := Try.zeroValue55 w
  have hc : ∀ b, (Instr.checkKey b 10000 3 (.int .i64 k)).run Try.prog w = .ok () w := fun b => MapKept.run_checkKey (k := .int .i64 k) hk (by simp [MapKept.IsKey]) b 9999
  cases hf : insL.find? (fun x => x.2.1 == k) with
  | none =>
    refine .inr ⟨by simp [shapeOf, hf], fun ok => ?_⟩
    rw [List.find?_eq_none] at hf
    have hn : Instr.findNow (.int .i64) (.int .i64 k) es.toList 0 = some none := findNow_none (fun e he => by
      obtain ⟨x, hx, h1, _⟩ := hes e he
      rw [h1]; simp only [Instr.sameNow]
      have h2 : ¬ x.2.1 = k := by simpa using hf x hx
      have : (k == x.2.1) = false := by simpa using fun e => h2 e.symm
      simp [this]) 0
    cases ok <;> simp [Instr.lookup, run_underlying hm, MapKept.run_getObj_map hb, hc, MapKept.run_findKey hk hn, hz, Result.andThen, zero55]
  | some x =>
    have hx := List.mem_of_find?_eq_some hf
    have hxk : x.2.1 = k := by simpa using List.find?_some hf
    obtain ⟨e, he, hek⟩ := hin x hx
    obtain ⟨j, e2, h1, h2, h3⟩ := findNow_some (kind := .int .i64) (k := .int .i64 k) (es := es.toList) (fun e he => by
      obtain ⟨x, hx, h1, _⟩ := hes e he
      rw [h1]; exact ⟨k == x.2.1, by simp [Instr.sameNow]⟩) ⟨e, he, by rw [hek, hxk]; simp [Instr.sameNow]⟩ 0
    obtain ⟨y, hy, hyk, hys⟩ := hes e2 h1
    have hyx : y = x := ins_inj hy hx (by
      rw [hyk] at h2; simp only [Instr.sameNow, if_true] at h2
      have : k = y.2.1 := by simpa using h2
      rw [hxk, this])
    subst hyx
    refine .inl ⟨y.2.2, e2.val, by simp [shapeOf, hf], hys, fun ok => ?_⟩
    cases ok <;> simp [Instr.lookup, run_underlying hm, MapKept.run_getObj_map hb, hc, MapKept.run_findKey hk h3, Result.andThen]

theorem run_field55 (w : World) (a b c d : Value) : (Instr.field 55 (.agg #[a, b, c, d]) 2).run Try.prog w = .ok c w := by
  have h1 := Try.underlying55
  have h2 := Try.underlying28
  unfold Instr.field
  go_simp
  simp [asAgg, Result.andThen]

theorem run_equalIn_func_nil (w : World) (d : Nat) (fn : Fn) (c : Array Value) : (Op.equalIn (d + 1) 28 (.func fn #[] c) .nilFunc).run Try.prog w = .ok false w := by
  have h2 := Try.underlying28
  simp [Op.equalIn, run_underlying h2]
theorem run_equalIn_nil_nil (w : World) (d : Nat) : (Op.equalIn (d + 1) 28 .nilFunc .nilFunc).run Try.prog w = .ok true w := by
  have h2 := Try.underlying28
  simp [Op.equalIn, run_underlying h2]
theorem run_equal_func_nil (w : World) (fn : Fn) (c : Array Value) : (Op.equal 28 (.func fn #[] c) .nilFunc).run Try.prog w = .ok false w := run_equalIn_func_nil w 9999 fn c
theorem run_equal_nil_nil (w : World) : (Op.equal 28 .nilFunc .nilFunc).run Try.prog w = .ok true w := run_equalIn_nil_nil w 9999
theorem run_neq_func (w : World) (fn : Fn) (c : Array Value) : (binOp .neq 28 (.func fn #[] c) .nilFunc).run Try.prog w = .ok (.bool true) w := by
  have h1 := run_equal_func_nil w fn c
  simp only [binOp]; simp [h1]
theorem run_neq_nil (w : World) : (binOp .neq 28 .nilFunc .nilFunc).run Try.prog w = .ok (.bool false) w := by
  have h1 := run_equal_nil_nil w
  simp only [binOp]; simp [h1]
theorem run_eql_func (w : World) (fn : Fn) (c : Array Value) : (binOp .eql 28 (.func fn #[] c) .nilFunc).run Try.prog w = .ok (.bool false) w := by
  have h1 := run_equal_func_nil w fn c
  simp only [binOp]; simp [h1]
theorem run_eql_nil (w : World) : (binOp .eql 28 .nilFunc .nilFunc).run Try.prog w = .ok (.bool true) w := by
  have h1 := run_equal_nil_nil w
  simp only [binOp]; simp [h1]

def tree_List.f (a0 : Int) : Option Bool := some (match shapeOf a0 with | some s => s.list.isSome | none => false)

set_option maxRecDepth 100000 in
set_option maxHeartbeats 2000000 in
theorem tree_List.calls (a0 : Int) (r : Bool) (w : World) (h : tree_List.f a0 = some r) :
    Calls Try.prog 18 #[.int .i64 a0] w fun e w' => e = .returned (.bool r) ∧ Below w.heap.size w w' := by
  have h' := Option.some.inj h
  have HR := Aside0.mk h'
  have HS := Aside0.mk (shapes_calls w)
  clear h h'
  have hfield := run_field55
  have hnf := run_neq_func
  have hnn := run_neq_nil
  go_enter Try.func18, Try.ntmps18
  go_wp2_with fail
  refine HS.out.mono ?_
  rintro e w1 ⟨mb, rfl, hs, hb⟩
  rcases shapes_lookup w1 mb hs a0 with ⟨s, v, h1, ⟨tv, kv, lv, rfl, h2, h3, h4⟩, h5⟩ | ⟨h1, h5⟩
  · have hl := h5 false
    simp only [Bool.false_eq_true, if_false] at hl
    rw [h1] at HR
    replace HR : Aside0 (s.list.isSome = r) := ⟨HR.out⟩
    cases hsl : s.list with
    | none =>
      rw [hsl] at h4 HR
      obtain rfl : lv = .nilFunc := h4
      clear h5
      go_wp2
      go_ret
      exact ⟨by rw [← HR.out]; rfl, hb⟩
    | some t =>
      rw [hsl] at h4 HR
      obtain ⟨fn, c, rfl⟩ := isTest_form h4
      clear h5
      go_wp2
      go_ret
      exact ⟨by rw [← HR.out]; rfl, hb⟩
  · have hl := h5 false
    simp only [Bool.false_eq_true, if_false] at hl
    rw [h1] at HR
    unfold zero55 at hl
    clear h5
    go_wp2
    go_ret
    exact ⟨by rw [← HR.out]; rfl, hb⟩
end Go.Proofs.Ytbheobngeocdfaa.PAll
namespace Go.Proofs.Ytbheobngeocdfaa.PAll
open Go.RowKit Go.Proofs.YtbheobngeocdfaaW.PrintWords Go.Proofs.YtbheobngeocdfaaW.PrintLast Go.Proofs.YtbheobngeocdfaaW.PrintMore
set_option linter.unusedVariables false
set_option linter.unusedSimpArgs false

/-- the Kids' kinds, each by its own test -/
def kidsB : List Ts → List S24 → Bool
  | t :: ts, k :: ks => t.ev k.f0 && kidsB ts ks
  | _, _ => true
def fitsB (s : Sh) (x : S24) : Bool :=
  if s.text.ev x.f1 then
    match s.list with
    | none => if x.f4.length = s.kids.length then kidsB s.kids x.f4 else false
    | some t => if (x.f4.length : Int) < s.most then false else x.f4.all (fun k => t.ev k.f0)
  else false
theorem kidsB_drop {ts : List Ts} {ks : List S24} {j : Nat} (h1 : j < ts.length) (h2 : j < ks.length) : kidsB (ts.drop j) (ks.drop j) = (ts[j].ev ks[j].f0 && kidsB (ts.drop (j + 1)) (ks.drop (j + 1))) := by
  rw [List.drop_eq_getElem_cons h1, List.drop_eq_getElem_cons h2]; rfl

set_option maxRecDepth 100000 in
set_option maxHeartbeats 8000000 in
theorem fits_calls (s : Sh) (x : S24) (sv : Value) (A : Option Addr) (c : Nat) (w : World) (hs : IsShape w sv s) (hC : k24.C w A x.f4.length x.f4) (hc : x.f4.length ≤ c) (hn : x.f4.length < 4611686018427387904) (ht : x.f1.size < 4611686018427387904) :
    Calls Try.prog 56 #[sv, val24 x A c] w fun e w' => e = .returned (.bool (fitsB s x)) ∧ Below w.heap.size w w' := by
  obtain ⟨tv, kv, lv, rfl, h1, h2, h3⟩ := hs
  obtain ⟨id1, caps1, rfl, he1, h1⟩ := h1
  have HN := Aside0.mk hn
  have H1 := Aside0.mk (fun w' hk => h1 w' hk x.f1 ht)
  have H2 := Aside0.mk h2
  have HC := Aside0.mk hC
  have HCC := Aside0.mk hc
  obtain ⟨A2, n2, c2, rfl⟩ := isTests_form h2
  obtain ⟨R, hR⟩ : ∃ R, R = fitsB s x := ⟨_, rfl⟩
  rw [← hR]
  unfold fitsB at hR
  generalize s.text.ev x.f1 = bt1 at H1 hR
  have hu24 := Try.underlying24
  have hu55 := Try.underlying55
  have hu53 := Try.underlying53
  have hu22 := Try.underlying22
  have hnf := run_neq_func
  have hnn := run_neq_nil
  have hef := run_eql_func
  have hen := run_eql_nil
  clear h1 h2 hC hc hn ht
  simp only [val24]
  have hbA : ∀ o1 o2 : Obj, Below w.heap.size w ((w.alloc o1).alloc o2) := fun o1 o2 => (below_new w o1).alloc (by simp) o2
  have HBA := Aside0.mk hbA
  clear hbA
  cases bt1 with
  | false =>
    rw [if_neg (by decide)] at hR
    subst hR
    cases hsl : s.list with
    | none =>
      rw [hsl] at h3
      obtain rfl : lv = .nilFunc := h3
      go_enter Try.func56, Try.ntmps56
      go_wp2_with fail
      refine (H1.out _ (KeepC.of_below (HBA.out _ _))).mono ?_
      rintro e w1 ⟨rfl, hb⟩
      go_wp2
      go_ret
      exact ⟨rfl, (HBA.out _ _).trans (hb.mono (HBA.out _ _).size)⟩
    | some t =>
      rw [hsl] at h3
      obtain ⟨fn, cc, rfl⟩ := isTest_form h3
      go_enter Try.func56, Try.ntmps56
      go_wp2_with fail
      refine (H1.out _ (KeepC.of_below (HBA.out _ _))).mono ?_
      rintro e w1 ⟨rfl, hb⟩
      go_wp2
      go_ret
      exact ⟨rfl, (HBA.out _ _).trans (hb.mono (HBA.out _ _).size)⟩
  | true =>
    rw [if_pos rfl] at hR
    cases hsl : s.list with
    | none =>
      rw [hsl] at h3 hR
      obtain rfl : lv = .nilFunc := h3
      simp only [] at hR
      have HR := Aside0.mk hR
      clear hR
      have hform : n2 = s.kids.length := by
        rcases H2.out with ⟨h, e⟩ | ⟨b, vs, e, _⟩
        · cases e; rw [h]; rfl
        · cases e; rfl
      subst hform
      go_enter Try.func56, Try.ntmps56
      go_wp2_with fail
      obtain ⟨W0, hW0⟩ : ∃ W0, ((w.alloc (Obj.cells #[Value.func (Fn.func id1) #[] caps1.toArray, Value.slice A2 s.kids.length c2, Value.nilFunc, Value.int IntKind.i64 s.most] 55)).alloc (Obj.cells #[Value.int IntKind.i64 x.f0, Value.string x.f1, Value.int IntKind.i64 x.f2, Value.int IntKind.i64 x.f3, Value.slice A x.f4.length c] 24)) = W0 := ⟨_, rfl⟩
      rw [hW0]
      have hb0 := HBA.out (Obj.cells #[Value.func (Fn.func id1) #[] caps1.toArray, Value.slice A2 s.kids.length c2, Value.nilFunc, Value.int IntKind.i64 s.most] 55) (Obj.cells #[Value.int IntKind.i64 x.f0, Value.string x.f1, Value.int IntKind.i64 x.f2, Value.int IntKind.i64 x.f3, Value.slice A x.f4.length c] 24)
      have hs0 : W0.heap[w.heap.size]? = some (.cells #[Value.func (Fn.func id1) #[] caps1.toArray, Value.slice A2 s.kids.length c2, Value.nilFunc, Value.int IntKind.i64 s.most] 55) := by rw [← hW0]; exact blk_alloc (blk_new w _) _
      have hn0 : W0.heap[w.heap.size + 1]? = some (.cells #[Value.int IntKind.i64 x.f0, Value.string x.f1, Value.int IntKind.i64 x.f2, Value.int IntKind.i64 x.f3, Value.slice A x.f4.length c] 24) := by
        rw [← hW0]
        have := blk_new (w.alloc (Obj.cells #[Value.func (Fn.func id1) #[] caps1.toArray, Value.slice A2 s.kids.length c2, Value.nilFunc, Value.int IntKind.i64 s.most] 55)) (Obj.cells #[Value.int IntKind.i64 x.f0, Value.string x.f1, Value.int IntKind.i64 x.f2, Value.int IntKind.i64 x.f3, Value.slice A x.f4.length c] 24)
        rwa [World.size_alloc] at this
      rw [hW0] at hb0
      clear hW0 HBA
      refine (H1.out _ (KeepC.of_below hb0)).mono ?_
      clear H1
      rintro e w1 ⟨rfl, hb⟩
      have HB1 := Aside0.mk (hb0.trans (hb.mono hb0.size))
      have hs1 := blk_below hs0 hb
      have hn1 := blk_below hn0 hb
      clear hb0 hs0 hn0 hb
      have hq0 : w1.cell? ⟨w.heap.size, 2, none⟩ = some .nilFunc := (blk_cell hs1 2).trans rfl
      have hq1 : w1.cell? ⟨w.heap.size, 1, none⟩ = some (.slice A2 s.kids.length c2) := (blk_cell hs1 1).trans rfl
      have hq4 : w1.cell? ⟨w.heap.size + 1, 4, none⟩ = some (.slice A x.f4.length c) := (blk_cell hn1 4).trans rfl
      have HS1 := Aside0.mk hs1
      clear hs1 hn1
      by_cases hl : x.f4.length = s.kids.length
      · rw [if_pos hl] at HR
        have HL := Aside0.mk hl
        have hlb : ((x.f4.length : Int) != (s.kids.length : Int)) = false := by simp [hl]
        clear hl
        go_wp2_with fail
        go_loopw [44] (fun p wr => ∃ j : Nat, p = .int .i64 (j : Int) ∧ j ≤ x.f4.length ∧ Aside0 (R = kidsB (s.kids.drop j) (x.f4.drop j)) ∧ Aside0 (wr.heap[w.heap.size]? = some (.cells #[Value.func (Fn.func id1) #[] caps1.toArray, Value.slice A2 s.kids.length c2, Value.nilFunc, Value.int IntKind.i64 s.most] 55 (0, 0))) ∧ Aside0 (Below w.heap.size w wr))
          (fun p wr => x.f4.length - (intOf p).toNat)
        case atStart => exact ⟨0, rfl, Nat.zero_le _, ⟨by rw [HR.out]; simp⟩, HS1, HB1⟩
        case round =>
          clear hq0 hq1 hq4 HS1 HB1 HR
          obtain ⟨j, rfl, hj, HR, HS, HB⟩ := hrel
          by_cases hlt : j < x.f4.length
          · have hltk : j < s.kids.length := by have := HL.out; omega
            have hlt1 : (j : Int) < (x.f4.length : Int) := by omega
            have hlt2 : (j : Int) < (s.kids.length : Int) := by omega
            have hge : (0 : Int) ≤ (j : Int) := by omega
            have HW : Aside0 (wrap64 ((j : Int) + 1) = ((j + 1 : Nat) : Int)) := ⟨wrap64_small24 (by have := HN.out; omega)⟩
            obtain ⟨ad, A4, c4, rfl, e0, e1, e2, e3, e4, el, eC⟩ := elem24 HC.out HB.out j hlt
            obtain ⟨w2, hw2⟩ : ∃ w2, wr.alloc (.cells #[.int .i64 x.f4[j].f0, .string x.f4[j].f1, .int .i64 x.f4[j].f2, .int .i64 x.f4[j].f3, .slice A4 x.f4[j].f4.length c4] 24) = w2 := ⟨_, rfl⟩
            have hb2 : Below w.heap.size w w2 := by rw [← hw2]; exact HB.out.alloc HB.out.size _
            have hs2 : w2.heap[w.heap.size]? = some (.cells #[Value.func (Fn.func id1) #[] caps1.toArray, Value.slice A2 s.kids.length c2, Value.nilFunc, Value.int IntKind.i64 s.most] 55 (0, 0)) := by rw [← hw2]; exact blk_alloc HS.out _
            rcases H2.out.keep (KeepC.of_below hb2) with ⟨hk0, _⟩ | ⟨b, vs, hk1, hk2, hk3, hk4⟩
            · rw [hk0] at hltk; simp at hltk
            · cases hk1
              obtain ⟨u, hu, htu⟩ := hk4 j s.kids[j] (List.getElem?_eq_getElem hltk)
              obtain ⟨id3, caps3, rfl, he3, h3'⟩ := htu
              have hcu : w2.cell? ⟨b, j, none⟩ = some (.func (.func id3) #[] caps3.toArray) := by rw [blk_cell hk2 j]; simpa using hu
              have hq0 : w2.cell? ⟨w.heap.size, 2, none⟩ = some .nilFunc := (blk_cell hs2 2).trans rfl
              have hq1 : w2.cell? ⟨w.heap.size, 1, none⟩ = some (.slice (some ⟨b, 0, none⟩) s.kids.length s.kids.length) := (blk_cell hs2 1).trans rfl
              have hk0 : w2.cell? ⟨wr.heap.size, 0, none⟩ = some (.int .i64 x.f4[j].f0) := by rw [← hw2]; exact (blk_cell (blk_new wr _) 0).trans rfl
              have H3 := Aside0.mk (h3' w2 (KeepC.refl _) x.f4[j].f0)
              have HS2 := Aside0.mk hs2
              have HB2 := Aside0.mk hb2
              have HR2 := Aside0.mk (HR.out.trans (kidsB_drop hltk hlt))
              clear hk2 hk3 hk4 h3' hs2 hb2 hu eC el
              go_wp2_with fail
              refine H3.out.mono ?_
              clear H3
              rintro e w3 ⟨rfl, hb⟩
              have HB3 := Aside0.mk (HB2.out.trans (hb.mono HB2.out.size))
              have HS3 := Aside0.mk (blk_below HS2.out hb)
              clear hb HS2 HB2 hcu hk0
              cases hev : s.kids[j].ev x.f4[j].f0 with
              | true =>
                have HR3 : Aside0 (R = kidsB (s.kids.drop (j + 1)) (x.f4.drop (j + 1))) := ⟨by rw [HR2.out, hev, Bool.true_and]⟩
                clear hev
                go_wp2
                go_roundw
                case rel => exact ⟨j + 1, by rw [HW.out], hlt, HR3, HS3, HB3⟩
                case measure => rw [HW.out]; show x.f4.length - (((j + 1 : Nat) : Int)).toNat < x.f4.length - (j : Int).toNat; omega
              | false =>
                have HR3 : Aside0 (R = false) := ⟨by rw [HR2.out, hev, Bool.false_and]⟩
                clear hev
                go_wp2
                go_ret
                exact ⟨by rw [HR3.out]; rfl, HB3.out⟩
          · have hje : j = x.f4.length := by omega
            have HR3 : Aside0 (R = true) := ⟨by rw [HR.out, hje, List.drop_length]; cases s.kids.drop x.f4.length <;> rfl⟩
            have hlt' : ¬ ((j : Int) < (x.f4.length : Int)) := by omega
            go_wp2
            go_ret
            exact ⟨by rw [HR3.out]; rfl, HB.out⟩
      · rw [if_neg hl] at HR
        have hlb : ((x.f4.length : Int) != (s.kids.length : Int)) = true := by simp; omega
        clear hl
        go_wp2
        go_ret
        exact ⟨by rw [HR.out]; rfl, HB1.out⟩
    | some t =>
      rw [hsl] at h3 hR
      simp only [] at hR
      have HR := Aside0.mk hR
      clear hR
      obtain ⟨id3, caps3, rfl, he3, h3'⟩ := h3
      have H3 := Aside0.mk h3'
      clear h3' H2
      go_enter Try.func56, Try.ntmps56
      go_wp2_with fail
      obtain ⟨W0, hW0⟩ : ∃ W0, ((w.alloc (Obj.cells #[Value.func (Fn.func id1) #[] caps1.toArray, Value.slice A2 n2 c2, Value.func (Fn.func id3) #[] caps3.toArray, Value.int IntKind.i64 s.most] 55)).alloc (Obj.cells #[Value.int IntKind.i64 x.f0, Value.string x.f1, Value.int IntKind.i64 x.f2, Value.int IntKind.i64 x.f3, Value.slice A x.f4.length c] 24)) = W0 := ⟨_, rfl⟩
      rw [hW0]
      have hb0 := HBA.out (Obj.cells #[Value.func (Fn.func id1) #[] caps1.toArray, Value.slice A2 n2 c2, Value.func (Fn.func id3) #[] caps3.toArray, Value.int IntKind.i64 s.most] 55) (Obj.cells #[Value.int IntKind.i64 x.f0, Value.string x.f1, Value.int IntKind.i64 x.f2, Value.int IntKind.i64 x.f3, Value.slice A x.f4.length c] 24)
      have hs0 : W0.heap[w.heap.size]? = some (.cells #[Value.func (Fn.func id1) #[] caps1.toArray, Value.slice A2 n2 c2, Value.func (Fn.func id3) #[] caps3.toArray, Value.int IntKind.i64 s.most] 55) := by rw [← hW0]; exact blk_alloc (blk_new w _) _
      have hn0 : W0.heap[w.heap.size + 1]? = some (.cells #[Value.int IntKind.i64 x.f0, Value.string x.f1, Value.int IntKind.i64 x.f2, Value.int IntKind.i64 x.f3, Value.slice A x.f4.length c] 24) := by
        rw [← hW0]
        have := blk_new (w.alloc (Obj.cells #[Value.func (Fn.func id1) #[] caps1.toArray, Value.slice A2 n2 c2, Value.func (Fn.func id3) #[] caps3.toArray, Value.int IntKind.i64 s.most] 55)) (Obj.cells #[Value.int IntKind.i64 x.f0, Value.string x.f1, Value.int IntKind.i64 x.f2, Value.int IntKind.i64 x.f3, Value.slice A x.f4.length c] 24)
        rwa [World.size_alloc] at this
      rw [hW0] at hb0
      clear hW0 HBA
      refine (H1.out _ (KeepC.of_below hb0)).mono ?_
      clear H1
      rintro e w1 ⟨rfl, hb⟩
      have HB1 := Aside0.mk (hb0.trans (hb.mono hb0.size))
      have hs1 := blk_below hs0 hb
      have hn1 := blk_below hn0 hb
      clear hb0 hs0 hn0 hb
      have hq0 : w1.cell? ⟨w.heap.size, 2, none⟩ = some (.func (.func id3) #[] caps3.toArray) := (blk_cell hs1 2).trans rfl
      have hq3 : w1.cell? ⟨w.heap.size, 3, none⟩ = some (.int .i64 s.most) := (blk_cell hs1 3).trans rfl
      have hq4 : w1.cell? ⟨w.heap.size + 1, 4, none⟩ = some (.slice A x.f4.length c) := (blk_cell hn1 4).trans rfl
      have HS1 := Aside0.mk hs1
      clear hs1 hn1
      by_cases hl : (x.f4.length : Int) < s.most
      · rw [if_pos hl] at HR
        have hlb : decide ((x.f4.length : Int) < s.most) = true := decide_eq_true hl
        clear hl
        go_wp2
        go_ret
        exact ⟨by rw [HR.out]; rfl, HB1.out⟩
      · rw [if_neg hl] at HR
        have hlb : decide ((x.f4.length : Int) < s.most) = false := decide_eq_false hl
        clear hl
        go_wp2_with fail
        go_loopw [44] (fun p wr => ∃ j : Nat, p = .int .i64 (j : Int) ∧ j ≤ x.f4.length ∧ Aside0 (R = (x.f4.drop j).all (fun k => t.ev k.f0)) ∧ Aside0 (wr.heap[w.heap.size]? = some (.cells #[Value.func (Fn.func id1) #[] caps1.toArray, Value.slice A2 n2 c2, Value.func (Fn.func id3) #[] caps3.toArray, Value.int IntKind.i64 s.most] 55 (0, 0))) ∧ Aside0 (Below w.heap.size w wr))
          (fun p wr => x.f4.length - (intOf p).toNat)
        case atStart => exact ⟨0, rfl, Nat.zero_le _, ⟨by rw [HR.out]; simp⟩, HS1, HB1⟩
        case round =>
          clear hq0 hq3 hq4 HS1 HB1 HR
          obtain ⟨j, rfl, hj, HR, HS, HB⟩ := hrel
          by_cases hlt : j < x.f4.length
          · have hlt1 : (j : Int) < (x.f4.length : Int) := by omega
            have hge : (0 : Int) ≤ (j : Int) := by omega
            have HW : Aside0 (wrap64 ((j : Int) + 1) = ((j + 1 : Nat) : Int)) := ⟨wrap64_small24 (by have := HN.out; omega)⟩
            obtain ⟨ad, A4, c4, rfl, e0, e1, e2, e3, e4, el, eC⟩ := elem24 HC.out HB.out j hlt
            obtain ⟨w2, hw2⟩ : ∃ w2, wr.alloc (.cells #[.int .i64 x.f4[j].f0, .string x.f4[j].f1, .int .i64 x.f4[j].f2, .int .i64 x.f4[j].f3, .slice A4 x.f4[j].f4.length c4] 24) = w2 := ⟨_, rfl⟩
            have hb2 : Below w.heap.size w w2 := by rw [← hw2]; exact HB.out.alloc HB.out.size _
            have hs2 : w2.heap[w.heap.size]? = some (.cells #[Value.func (Fn.func id1) #[] caps1.toArray, Value.slice A2 n2 c2, Value.func (Fn.func id3) #[] caps3.toArray, Value.int IntKind.i64 s.most] 55 (0, 0)) := by rw [← hw2]; exact blk_alloc HS.out _
            have hq0 : w2.cell? ⟨w.heap.size, 2, none⟩ = some (.func (.func id3) #[] caps3.toArray) := (blk_cell hs2 2).trans rfl
            have hk0 : w2.cell? ⟨wr.heap.size, 0, none⟩ = some (.int .i64 x.f4[j].f0) := by rw [← hw2]; exact (blk_cell (blk_new wr _) 0).trans rfl
            have H4 := Aside0.mk (H3.out w2 (KeepC.of_below hb2) x.f4[j].f0)
            have HS2 := Aside0.mk hs2
            have HB2 := Aside0.mk hb2
            have HR2 : Aside0 (R = (t.ev x.f4[j].f0 && (x.f4.drop (j + 1)).all (fun k => t.ev k.f0))) := ⟨by rw [HR.out, List.drop_eq_getElem_cons hlt, List.all_cons]⟩
            clear hs2 hb2 eC el
            go_wp2_with fail
            refine H4.out.mono ?_
            clear H4
            rintro e w3 ⟨rfl, hb⟩
            have HB3 := Aside0.mk (HB2.out.trans (hb.mono HB2.out.size))
            have HS3 := Aside0.mk (blk_below HS2.out hb)
            clear hb HS2 HB2 hk0 hq0
            cases hev : t.ev x.f4[j].f0 with
            | true =>
              have HR3 : Aside0 (R = (x.f4.drop (j + 1)).all (fun k => t.ev k.f0)) := ⟨by rw [HR2.out, hev, Bool.true_and]⟩
              clear hev
              go_wp2
              go_roundw
              case rel => exact ⟨j + 1, by rw [HW.out], hlt, HR3, HS3, HB3⟩
              case measure => rw [HW.out]; show x.f4.length - (((j + 1 : Nat) : Int)).toNat < x.f4.length - (j : Int).toNat; omega
            | false =>
              have HR3 : Aside0 (R = false) := ⟨by rw [HR2.out, hev, Bool.false_and]⟩
              clear hev
              go_wp2
              go_ret
              exact ⟨by rw [HR3.out]; rfl, HB3.out⟩
          · have hje : j = x.f4.length := by omega
            have HR3 : Aside0 (R = true) := ⟨by rw [HR.out, hje, List.drop_length]; rfl⟩
            have hlt' : ¬ ((j : Int) < (x.f4.length : Int)) := by omega
            go_wp2
            go_ret
            exact ⟨by rw [HR3.out]; rfl, HB.out⟩
end Go.Proofs.Ytbheobngeocdfaa.PAll
