/- The stable sort of at most 16 attempts by their points, and the reversal of attempts: what the calls come to. Under no condition. -/
import Derived.Test.YtdailoccmjeceaaPAllxf36
import Derived.Test.YtdailoccmjeceaaSh
import Derived.Laws.IdiomCopy
import Derived.Laws.CopyOwn
import Derived.StillTailTactics
import Derived.WalkLawsBesides
namespace Go.Proofs.Ytdailoccmjeceaa.PAll
open Go.RowKit Go.Lib Go.Sort Go.Proofs.YtdailoccmjeceaaW.PrintWords Go.Proofs.YtdailoccmjeceaaW.PrintLast Go.Proofs.YtdailoccmjeceaaW.PrintMore
set_option linter.unusedVariables false
set_option linter.unusedSimpArgs false

instance inh38 : Inhabited S38 := ⟨z38⟩
def enc38 (x : S38) : List Value := [.int .i64 x.f0, .int .i64 x.f1, .int .i64 x.f2]
def cf38 (x y : S38) : Int := Lib.compareInt y.f2 x.f2

theorem enc38_one (x : S38) : ∀ v ∈ enc38 x, v.oneCell' = true := fun v hv => by
  simp [enc38] at hv
  rcases hv with rfl | rfl | rfl <;> rfl

set_option maxHeartbeats 1000000 in
theorem closure42 (x y : S38) (W : World) : Calls Try.prog 42 #[.agg #[.int .i64 x.f0, .int .i64 x.f1, .int .i64 x.f2], .agg #[.int .i64 y.f0, .int .i64 y.f1, .int .i64 y.f2]] W fun e w' => e = .returned (.int .i64 (Lib.compareInt y.f2 x.f2)) ∧ ∃ q os', w' = grow (W.drewN q) os' := by
  have hcon := fun W' => AnyG.cmp_Compare_int Try.cmpInt y.f2 x.f2 W'
  change ∀ W', Calls Try.prog 43 _ _ _ at hcon
  generalize Lib.compareInt y.f2 x.f2 = r at hcon ⊢
  go_enter Try.func42, Try.ntmps42
  go_wp2_with (go_at_call 43; refine (hcon _).mono ?_; rintro e w' ⟨rfl, rfl⟩)
  go_ret
  exact ⟨rfl, 0, _, by rw [alloc_eq_grow, alloc_eq_grow, grow_grow]; rfl⟩

theorem ins59 (g off cap a b : Nat) (d : Array S38) (w : World) (hH : HoldsK enc38 3 w g off d) (hblk : g < w.heap.size) (hab : a ≤ b) (hb : b ≤ d.size) (hsz : d.size < 4611686018427387904) :
    Calls Try.prog 59 #[.slice (some ⟨g, off, none⟩) d.size cap, .int .i64 a, .int .i64 b, .func (.func 42) #[] #[]] w fun e w' => e = .returned (.tuple #[]) ∧ ∃ n os, w' = sortWorldK enc38 3 w g off n (Sort.insertionSort (ltOf cf38) d a b) os :=
  AnyQ.insertionSortCmpFunc Try.insCmp 3 Try.isAgg38 Try.sizeOf38 enc38 (fun _ => rfl) enc38_one cf38 42 #[] g off cap a b d w (enters_of Try.func42 (by kernel_rfl) rfl)
    (fun _ _ _ _ x y => closure42 x y _) hH hblk hab hb hsz

set_option maxHeartbeats 1600000 in
set_option maxRecDepth 100000 in
theorem stable46 (g off cap : Nat) (d : Array S38) (W : World) (hH : HoldsK enc38 3 W g off d) (hblk : g < W.heap.size) (h20 : d.size < 20) :
    Calls Try.prog 46 #[.slice (some ⟨g, off, none⟩) d.size cap, .int .i64 d.size, .func (.func 42) #[] #[]] W fun e w' => e = .returned (.tuple #[]) ∧ ∃ n os, w' = sortWorldK enc38 3 W g off n (Sort.insertionSort (ltOf cf38) d 0 d.size) os := by
  have hc : Calls Try.prog 59 #[.slice (some ⟨g, off, none⟩) d.size cap, .int .i64 0, .int .i64 d.size, .func (.func 42) #[] #[]] W fun e w' => e = .returned (.tuple #[]) ∧ ∃ n os, w' = sortWorldK enc38 3 W g off n (Sort.insertionSort (ltOf cf38) d 0 d.size) os := ins59 g off cap 0 d.size d W hH hblk (Nat.zero_le _) (Nat.le_refl _) (by omega)
  clear hH
  have h1 : ((20 : Int) ≤ (d.size : Int)) = False := eq_false (by omega)
  have h2 : decide ((20 : Int) ≤ (d.size : Int)) = false := decide_eq_false (by omega)
  have h3 : decide ((20 : Int) < (d.size : Int)) = false := decide_eq_false (by omega)
  go_enter Try.func46, Try.ntmps46
  go_wp2
  refine wp_loop_rounds 1 ?_
  rw [rounds_succ]
  go_wp2_with fail
  refine hc.mono ?_
  rintro e w1 ⟨rfl, n, os, rfl⟩
  go_wp2_with fail
  refine wp_loop_rounds 1 ?_
  rw [rounds_succ]
  go_wp2
  go_end0
  exact ⟨rfl, n, _, rfl⟩

set_option maxHeartbeats 1600000 in
theorem sort41 (g off cap : Nat) (d : Array S38) (W : World) (hH : HoldsK enc38 3 W g off d) (hblk : g < W.heap.size) (h20 : d.size < 20) :
    Calls Try.prog 41 #[.slice (some ⟨g, off, none⟩) d.size cap, .func (.func 42) #[] #[]] W fun e w' => e = .returned (.tuple #[]) ∧ ∃ n os, w' = sortWorldK enc38 3 W g off n (Sort.insertionSort (ltOf cf38) d 0 d.size) os := by
  have hc := stable46 g off cap d W hH hblk h20
  clear hH
  go_enter Try.func41, Try.ntmps41
  go_wp2_with fail
  refine hc.mono ?_
  rintro e w1 ⟨rfl, n, os, rfl⟩
  go_wp2_with fail
  go_end0
  exact ⟨rfl, n, os, rfl⟩

theorem rev40 (g off cap : Nat) (d : Array S38) (W : World) (hH : HoldsK enc38 3 W g off d) (hsz : d.size ≤ 9223372036854775807) :
    Calls Try.prog 40 #[.slice (some ⟨g, off, none⟩) d.size cap] W fun e w' => e = .returned (.tuple #[]) ∧ ∃ n, w' = putRowK enc38 3 (Sort.ahead W n) g off d.reverse :=
  AnyQ.slices_Reverse Try.revA 3 Try.isAgg38 Try.sizeOf38 enc38 (fun _ => rfl) enc38_one g off cap d W hH hsz

end Go.Proofs.Ytdailoccmjeceaa.PAll
