/- The program's types.Valid: what its calls come to, over the contracts of the table's functions. -/
import Derived.Test.YtigkoknabliboaaH2
import Derived.Laws.EntriesVeiled
namespace Go.Proofs.Ytigkoknabliboaa.PAll
open Go.RowKit Go.Proofs.YtigkoknabliboaaW.PrintWords Go.Proofs.YtigkoknabliboaaW.PrintLast Go.Proofs.YtigkoknabliboaaW.PrintMore
set_option linter.unusedVariables false
set_option linter.unusedSimpArgs false

theorem look71 (k : Int) (c : Bool) (i : Nat) (v : Value) (hf : Instr.findNow (.int .i64) (.int .i64 k) shapeEs.toList 0 = some (some (i, v))) (w : World) (m : Nat) (hb : w.heap[m]? = some (.map shapeEs 4)) :
    (Instr.lookup 71 (.map (some m)) (.int .i64 k) c).run Try.prog w = .ok (if c then .tuple #[v, .bool true] else v) w := run_lookup_int c Try.underlying71 Try.underlying3 hb hf

theorem look71n (k : Int) (c : Bool) (hf : Instr.findNow (.int .i64) (.int .i64 k) shapeEs.toList 0 = some none) (w : World) (m : Nat) (hb : w.heap[m]? = some (.map shapeEs 4)) :
    (Instr.lookup 71 (.map (some m)) (.int .i64 k) c).run Try.prog w = .ok (if c then .tuple #[.agg #[.nilFunc, .nilFunc], .bool false] else .agg #[.nilFunc, .nilFunc]) w := run_lookup_int_none c Try.underlying71 Try.underlying3 hb (by kernel_rfl) hf
set_option maxHeartbeats 4000000 in
set_option maxRecDepth 100000 in
theorem valid_hit (a0_0 a0_1 : Int) (a0_2 : ByteArray) (s1 : Value) (i f g : Nat) (r : Bool) (w : World)
    (hf : Instr.findNow (.int .i64) (.int .i64 a0_0) shapeEs.toList 0 = some (some (i, .agg #[.func (.func f) #[] #[], .func (.func g) #[] #[]])))
    (ef : ∀ args w, (callFunc f args).run Try.prog w = .ok (.enter f args) w)
    (hc : ∀ W, Below w.heap.size w W → Calls Try.prog f #[.agg #[.int .i64 a0_0, .int .i64 a0_1, .string a0_2], s1] W fun e w' => e = .returned (.bool r) ∧ Below W.heap.size W w') :
    Calls Try.prog 10 #[.agg #[.int .i64 a0_0, .int .i64 a0_1, .string a0_2], s1] w fun e w' => e = .returned (.bool r) ∧ Below w.heap.size w w' := by
  have HC := Aside0.mk hc
  have HL := fun c => look71 a0_0 c i _ hf
  have hl1 : ∀ w1 : World, Sem.run Try.prog (Instr.lookup 71 (.map (some w1.heap.size)) (.int .i64 a0_0) true) (w1.alloc (.map shapeEs 4)).drew = .ok (.tuple #[.agg #[.func (.func f) #[] #[], .func (.func g) #[] #[]], .bool true]) (w1.alloc (.map shapeEs 4)).drew := fun w1 => by
    rw [HL true _ _ (by simpa [World.drew] using heap_alloc_new w1 _)]; rfl
  have hl4 : ∀ (w1 : World) (C : Array Value) (t : Nat), Sem.run Try.prog (Instr.lookup 71 (.map (some w1.heap.size)) (.int .i64 a0_0) true) ((w1.alloc (.map shapeEs 4)).alloc (.cells C t)).drew = .ok (.tuple #[.agg #[.func (.func f) #[] #[], .func (.func g) #[] #[]], .bool true]) ((w1.alloc (.map shapeEs 4)).alloc (.cells C t)).drew := fun w1 C t => by
    rw [HL true _ _ (by simpa [World.drew] using (Below.heap_alloc _ _ _ (by simp)).trans (heap_alloc_new w1 _))]; rfl
  have hl5 := hl4 (w.alloc (.cells #[.int .i64 a0_0, .int .i64 a0_1, .string a0_2] 27)) #[.nilFunc, .nilFunc] 69
  have hl2 := hl1 (w.alloc (.cells #[.int .i64 a0_0, .int .i64 a0_1, .string a0_2] 27))
  have hl3 := hl1 ((w.alloc (.cells #[.int .i64 a0_0, .int .i64 a0_1, .string a0_2] 27)).alloc (.cells #[.nilFunc, .nilFunc] 69))
  simp only [World.size_alloc] at hl2 hl3 hl5
  have HF := Aside0.mk hf
  clear hc hf HL hl1 hl4
  go_enter Try.func10, Try.ntmps10
  go_wp2_with fail
  go_region_held3 (fun w' => w'.cell? ⟨w.heap.size, 0, none⟩ = some (.int .i64 a0_0) ∧ w'.cell? ⟨w.heap.size, 1, none⟩ = some (.int .i64 a0_1) ∧ w'.cell? ⟨w.heap.size, 2, none⟩ = some (.string a0_2)) (first | go_keep) (first | (go_at_call 33; refine (shapes_calls _).mono ?_; rintro e w1 ⟨rfl, rfl⟩))
  all_goals
    go_wp2_with fail
    refine (HC.out _ ?_).mono ?_
    · exact ((((Below.refl _ _).alloc (Nat.le_refl _) _).alloc (by simp) _).alloc (by simp; omega) _).drew
    rintro e w2 ⟨rfl, hb⟩
    have HB := Aside0.mk hb
    clear hb
    go_wp2
    go_ret
    exact ⟨rfl, ((((Below.refl _ _).alloc (Nat.le_refl _) _).alloc (by simp) _).alloc (by simp; omega) _).drew.trans (HB.out.mono (by simp; omega))⟩
set_option maxHeartbeats 4000000 in
set_option maxRecDepth 100000 in
theorem valid_miss (a0_0 a0_1 : Int) (a0_2 : ByteArray) (s1 : Value) (w : World)
    (hf : Instr.findNow (.int .i64) (.int .i64 a0_0) shapeEs.toList 0 = some none) :
    Calls Try.prog 10 #[.agg #[.int .i64 a0_0, .int .i64 a0_1, .string a0_2], s1] w fun e w' => e = .returned (.bool false) ∧ Below w.heap.size w w' := by
  have HL := fun c => look71n a0_0 c hf
  have hl1 : ∀ w1 : World, Sem.run Try.prog (Instr.lookup 71 (.map (some w1.heap.size)) (.int .i64 a0_0) true) (w1.alloc (.map shapeEs 4)).drew = .ok (.tuple #[.agg #[.nilFunc, .nilFunc], .bool false]) (w1.alloc (.map shapeEs 4)).drew := fun w1 => by
    rw [HL true _ _ (by simpa [World.drew] using heap_alloc_new w1 _)]; rfl
  have hl4 : ∀ (w1 : World) (C : Array Value) (t : Nat), Sem.run Try.prog (Instr.lookup 71 (.map (some w1.heap.size)) (.int .i64 a0_0) true) ((w1.alloc (.map shapeEs 4)).alloc (.cells C t)).drew = .ok (.tuple #[.agg #[.nilFunc, .nilFunc], .bool false]) ((w1.alloc (.map shapeEs 4)).alloc (.cells C t)).drew := fun w1 C t => by
    rw [HL true _ _ (by simpa [World.drew] using (Below.heap_alloc _ _ _ (by simp)).trans (heap_alloc_new w1 _))]; rfl
  have hl5 := hl4 (w.alloc (.cells #[.int .i64 a0_0, .int .i64 a0_1, .string a0_2] 27)) #[.nilFunc, .nilFunc] 69
  have hl2 := hl1 (w.alloc (.cells #[.int .i64 a0_0, .int .i64 a0_1, .string a0_2] 27))
  have hl3 := hl1 ((w.alloc (.cells #[.int .i64 a0_0, .int .i64 a0_1, .string a0_2] 27)).alloc (.cells #[.nilFunc, .nilFunc] 69))
  simp only [World.size_alloc] at hl2 hl3 hl5
  have HF := Aside0.mk hf
  clear hf HL hl1 hl4
  go_enter Try.func10, Try.ntmps10
  go_wp2_with fail
  go_region_held3 (fun w' => w'.cell? ⟨w.heap.size, 0, none⟩ = some (.int .i64 a0_0) ∧ w'.cell? ⟨w.heap.size, 1, none⟩ = some (.int .i64 a0_1) ∧ w'.cell? ⟨w.heap.size, 2, none⟩ = some (.string a0_2)) (first | go_keep) (first | (go_at_call 33; refine (shapes_calls _).mono ?_; rintro e w1 ⟨rfl, rfl⟩))
  all_goals
    go_wp2
    go_ret
    exact ⟨rfl, ((((Below.refl _ _).alloc (Nat.le_refl _) _).alloc (by simp) _).alloc (by simp; omega) _).drew⟩
end Go.Proofs.Ytigkoknabliboaa.PAll
