/- The program's table of kinds of types: what the calls of types.shapes and of its functions come to. Under no condition. -/
import Derived.Test.YtigkoknabliboaaH1
import Derived.WalkSpells
namespace Go.Proofs.Ytigkoknabliboaa.PAll
open Go.RowKit Go.Proofs.YtigkoknabliboaaW.PrintWords Go.Proofs.YtigkoknabliboaaW.PrintLast Go.Proofs.YtigkoknabliboaaW.PrintMore
set_option linter.unusedVariables false
set_option linter.unusedSimpArgs false

/-! maps over int, by their entries -/
section
variable {P : Program} {w : World} {mty kt et : TypeId}
theorem run_checkKey_int (b : Bool) (n : Nat) (key : Int) (hk : P.underlying kt = some (.int .i64)) : (Instr.checkKey b (n + 1) kt (.int .i64 key)).run P w = .ok () w := by
  simp [Instr.checkKey, run_underlying hk]
theorem run_insert_int {r : Nat} {es : Array MapEntry} {clock : Nat} {key : Int} (v : Value) (hm : P.underlying mty = some (.map kt et)) (hk : P.underlying kt = some (.int .i64)) (hb : w.heap[r]? = some (.map es clock))
    (hf : Instr.findNow (.int .i64) (.int .i64 key) es.toList 0 = some none) :
    (Instr.mapUpdate mty (.map (some r)) (.int .i64 key) v).run P w = .ok () { w with heap := w.heap.setIfInBounds r (.map (es.push { key := .int .i64 key, val := v, born := clock }) (clock + 1)) } := by
  have hg : Sem.run P (getObj r) w = .ok (.map es clock) w := by simp [getObj, Sem.run, hb]
  have hs : ∀ o, Sem.run P (setObj r o) w = .ok () { w with heap := w.heap.setIfInBounds r o } := by intro o; simp [setObj, Sem.run, hb]
  simp only [Instr.mapUpdate]
  simp [run_underlying hm, hg, run_checkKey_int false 9999 key hk, Instr.findKey, run_underlying hk, hf, hs]
theorem run_lookup_int {r : Nat} {es : Array MapEntry} {clock : Nat} {key : Int} {i : Nat} {v : Value} (c : Bool) (hm : P.underlying mty = some (.map kt et)) (hk : P.underlying kt = some (.int .i64)) (hb : w.heap[r]? = some (.map es clock))
    (hf : Instr.findNow (.int .i64) (.int .i64 key) es.toList 0 = some (some (i, v))) :
    (Instr.lookup mty (.map (some r)) (.int .i64 key) c).run P w = .ok (if c then .tuple #[v, .bool true] else v) w := by
  have hg : Sem.run P (getObj r) w = .ok (.map es clock) w := by simp [getObj, Sem.run, hb]
  simp only [Instr.lookup]
  simp [run_underlying hm, hg, run_checkKey_int _ 9999 key hk, Instr.findKey, run_underlying hk, hf]
theorem run_lookup_int_none {r : Nat} {es : Array MapEntry} {clock : Nat} {key : Int} {z : Value} (c : Bool) (hm : P.underlying mty = some (.map kt et)) (hk : P.underlying kt = some (.int .i64)) (hb : w.heap[r]? = some (.map es clock))
    (hz : (zeroValue et).run P w = .ok z w)
    (hf : Instr.findNow (.int .i64) (.int .i64 key) es.toList 0 = some none) :
    (Instr.lookup mty (.map (some r)) (.int .i64 key) c).run P w = .ok (if c then .tuple #[z, .bool false] else z) w := by
  have hg : Sem.run P (getObj r) w = .ok (.map es clock) w := by simp [getObj, Sem.run, hb]
  simp only [Instr.lookup]
  simp [run_underlying hm, hg, run_checkKey_int _ 9999 key hk, Instr.findKey, run_underlying hk, hf, hz]
theorem alloc_put (w : World) (o o' : Obj) : { w.alloc o with heap := (w.alloc o).heap.setIfInBounds w.heap.size o' } = w.alloc o' := by
  simp only [World.alloc]
  congr 1
  apply Array.ext_getElem?
  intro i
  simp only [Array.getElem?_setIfInBounds, Array.getElem?_push, Array.size_push]
  by_cases h : w.heap.size = i
  · subst h; simp
  · simp [h, Ne.symm h]
end

/-- the four shapes, as the map holds them -/
def shapeEs : Array MapEntry := #[{ key := .int .i64 1, val := .agg #[.func (.func 60) #[] #[], .func (.func 61) #[] #[]], born := 0 }, { key := .int .i64 2, val := .agg #[.func (.func 60) #[] #[], .func (.func 61) #[] #[]], born := 1 },
  { key := .int .i64 3, val := .agg #[.func (.func 62) #[] #[], .func (.func 63) #[] #[]], born := 2 }, { key := .int .i64 4, val := .agg #[.func (.func 65) #[] #[], .func (.func 66) #[] #[]], born := 3 }]
theorem ins71 (w : World) (es : Array MapEntry) (clock : Nat) (key : Int) (v : Value) (hf : Instr.findNow (.int .i64) (.int .i64 key) es.toList 0 = some none) :
    (Instr.mapUpdate 71 (.map (some w.heap.size)) (.int .i64 key) v).run Try.prog (w.alloc (.map es clock)) = .ok () (w.alloc (.map (es.push { key := .int .i64 key, val := v, born := clock }) (clock + 1))) := by
  rw [run_insert_int v Try.underlying71 Try.underlying3 (by simpa using heap_alloc_new w _) hf, alloc_put]
set_option maxHeartbeats 1000000 in
set_option maxRecDepth 100000 in
theorem shapes_calls (w : World) : Calls Try.prog 33 #[] w fun e w' => e = .returned (.map (some w.heap.size)) ∧ w' = w.alloc (.map shapeEs 4) := by
  have hmm := @run_makeMap Try.prog
  have h1 := fun v => ins71 w #[] 0 1 v rfl
  have h2 := fun v1 v => ins71 w #[{ key := .int .i64 1, val := v1, born := 0 }] 1 2 v rfl
  have h3 := fun v1 v2 v => ins71 w #[{ key := .int .i64 1, val := v1, born := 0 }, { key := .int .i64 2, val := v2, born := 1 }] 2 3 v rfl
  have h4 := fun v1 v2 v3 v => ins71 w #[{ key := .int .i64 1, val := v1, born := 0 }, { key := .int .i64 2, val := v2, born := 1 }, { key := .int .i64 3, val := v3, born := 2 }] 3 4 v rfl
  simp only [List.push_toArray, List.nil_append, List.cons_append, Nat.zero_add, Nat.reduceAdd] at h1 h2 h3 h4
  go_enter Try.func33, Try.ntmps33
  go_wp2
  go_ret
  exact ⟨rfl, rfl⟩
end Go.Proofs.Ytigkoknabliboaa.PAll
