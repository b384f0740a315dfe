/- What the machine's calls come to, function by function: printed by a program of this session after the kit's print; Lean checks it. -/
import Derived.Test.YtigkoknabliboaaProg
import Derived.Below
import Derived.Deep.Draws
import Derived.Deep.AppendLies
import Derived.Maps.AppendAt
import Derived.OwnWalk
import Derived.Laws.BytesArg
import Derived.Laws.MakeOwn
import Derived.Laws.OwnMore
import Derived.Deep.OwnRows
import Derived.Tactics
import Derived.Lib.ConvBytes
import Derived.Laws.Slices
import Derived.WalkKit
import Derived.KernelRfl
import Derived.RowKit3
import Derived.Deep.LoopGhost
import Derived.Deep.QuietTactic
import Derived.BigQuiet
import Derived.WideLaws
import Derived.Deep.DeepCutAuto
import Derived.Deep.CutBlock
import Derived.Deep.RegionHeld3
import Derived.Laws.Rows
import Derived.Lib.AppendStr
import Derived.ArgAppend
import Derived.Laws.IdiomCopy
import Derived.OrdersHeld
import Derived.Laws.BitsLemmas
import Derived.RowKit
import Derived.Test.YtigkoknabliboaaWWords
import Derived.Test.YtigkoknabliboaaWLast
import Derived.Test.YtigkoknabliboaaWTab
import Derived.Test.YtigkoknabliboaaWFour
import Derived.Test.YtigkoknabliboaaWQPut
import Derived.Test.YtigkoknabliboaaWApart
import Derived.Test.YtigkoknabliboaaWArr
import Derived.Test.YtigkoknabliboaaWZeros
import Derived.Test.YtigkoknabliboaaWFoot
import Derived.Test.YtigkoknabliboaaWKept
import Derived.Test.YtigkoknabliboaaWShare
import Derived.Test.YtigkoknabliboaaWN
import Derived.Test.YtigkoknabliboaaWFootNe
import Derived.Test.YtigkoknabliboaaWAt
import Derived.Test.YtigkoknabliboaaWEqStruct
import Derived.Test.YtigkoknabliboaaWRepsOne
import Derived.Test.YtigkoknabliboaaWInv
import Derived.Test.YtigkoknabliboaaWInvWords
import Derived.Test.YtigkoknabliboaaWGuard
import Derived.Test.YtigkoknabliboaaWNEv
import Derived.Test.YtigkoknabliboaaWMore
namespace Go.Proofs.Ytigkoknabliboaa.PAll
open Go.RowKit Go.Proofs.YtigkoknabliboaaW.PrintWords Go.Proofs.YtigkoknabliboaaW.PrintLast Go.Proofs.YtigkoknabliboaaW.PrintMore
attribute [local go_sem] max2_int min2_int max_two min_two max_three min_three max_four min_four   -- for this text's walks alone
set_option linter.unusedVariables false
set_option linter.unusedSimpArgs false



def errW : Option Int → Value
  | none => .nilIface
  | some c => .iface 0 (.int .i64 c)
theorem errW_none : errW none = .nilIface := rfl
theorem errW_some (c : Int) : errW (some c) = .iface 0 (.int .i64 c) := rfl

theorem info5 : (Try.prog.info? 5).map (fun i => (i.zero, i.size, i.bytes)) = some (some (.int .u8 0), 1, 1) := by kernel_rfl
theorem info27 : (Try.prog.info? 27).map (fun i => (i.zero, i.size, i.bytes)) = some (some (.agg #[(.int .i64 0), (.int .i64 0), (.string ⟨#[]⟩)]), 3, 32) := by kernel_rfl
theorem info39 : (Try.prog.info? 39).map (fun i => (i.zero, i.size, i.bytes)) = some (some (.agg #[(.string ⟨#[]⟩), (.int .i64 0), (.int .i64 0), (.string ⟨#[]⟩), (.int .i64 0), (.int .i64 0), (.bool false), (.bool false)]), 8, 72) := by kernel_rfl
theorem info63 : (Try.prog.info? 63).map (fun i => (i.zero, i.size, i.bytes)) = some (some (.agg #[(.string ⟨#[]⟩), (.slice none 0 0)]), 2, 40) := by kernel_rfl
theorem info76 : (Try.prog.info? 76).map (fun i => (i.zero, i.size, i.bytes)) = some (some (.agg #[(.string ⟨#[]⟩), (.int .i64 0), (.int .i64 0), (.string ⟨#[]⟩)]), 4, 48) := by kernel_rfl
-- the values' own types
/-! #### struct type 27 -/
structure S27 where
  f0 : Int
  f1 : Int
  f2 : ByteArray
def z27 : S27 := ⟨(0 : Int), (0 : Int), (⟨#[]⟩ : ByteArray)⟩
def k27 : Kd S27 := Kd.iso (Kd.pair (Kd.int .i64) (Kd.pair (Kd.int .i64) Kd.string)) (fun x : S27 => (x.f0, x.f1, x.f2))
theorem k27_open {w : World} {x : S27} {cs : List Value} (h : k27.K w x cs) : cs = [.int .i64 x.f0, .int .i64 x.f1, .string x.f2] := by
  obtain ⟨_, _, rfl, rfl, ⟨_, _, rfl, rfl, rfl⟩⟩ := h
  exact rfl
theorem k27_openM {w : World} {base : Nat} {ok : Nat → Prop} {x : S27} {cs : List Value} (h : k27.M w base ok x cs) : cs = [.int .i64 x.f0, .int .i64 x.f1, .string x.f2] := by
  obtain ⟨_, _, rfl, rfl, ⟨_, _, rfl, rfl, rfl⟩⟩ := h
  exact rfl
theorem k27_mk (w : World) (x : S27)  : k27.K w x [.int .i64 x.f0, .int .i64 x.f1, .string x.f2] := ⟨[.int .i64 x.f0], [.int .i64 x.f1, .string x.f2], rfl, rfl, ⟨[.int .i64 x.f1], [.string x.f2], rfl, rfl, rfl⟩⟩
theorem k27_mkM (w : World) (base : Nat) (ok : Nat → Prop) (x : S27)  : k27.M w base ok x [.int .i64 x.f0, .int .i64 x.f1, .string x.f2] := ⟨[.int .i64 x.f0], [.int .i64 x.f1, .string x.f2], rfl, rfl, ⟨[.int .i64 x.f1], [.string x.f2], rfl, rfl, rfl⟩⟩
theorem k27_mkF (W : World) (ok : Nat → Prop) (x : S27) : Kd.FK k27 W ok x [.int .i64 x.f0, .int .i64 x.f1, .string x.f2] := fun W2 _ => k27_mk W2 x
def rd_T27 (xs : List S27) (i : Int) : S27 := xs.getD i.toNat z27
theorem at_T27 {w : World} {A : Option Addr} {n : Nat} {xs : List S27} (h : Kd.C k27 w A n xs) (i : Int) (h0 : 0 ≤ i) (h1 : i < n) : ∃ ad , A = some ad ∧ w.cell? (ad.add (i.toNat * 3)) = some (.int .i64 (rd_T27 xs i).f0) ∧ w.cell? ⟨(ad.add (i.toNat * 3)).block, (ad.add (i.toNat * 3)).off + 1, none⟩ = some (.int .i64 (rd_T27 xs i).f1) ∧ w.cell? ⟨(ad.add (i.toNat * 3)).block, (ad.add (i.toNat * 3)).off + 2, none⟩ = some (.string (rd_T27 xs i).f2) := by
  obtain ⟨ad, c, e, _, hK, hc0⟩ := Kd.C_get h z27 i h0 h1
  have hc : ∀ j u, c[j]? = some u → w.cell? (ad.add (i.toNat * 3 + j)) = some u := hc0
  obtain rfl := k27_open hK
  exact ⟨ad, e, hc 0 _ rfl, by rw [← add_field _ _ 1 (by omega)]; exact hc 1 _ rfl, by rw [← add_field _ _ 2 (by omega)]; exact hc 2 _ rfl⟩

/-! #### struct type 76 -/
structure S76 where
  f0 : ByteArray
  f1 : S27
def z76 : S76 := ⟨(⟨#[]⟩ : ByteArray), z27⟩
def k76 : Kd S76 := Kd.iso (Kd.pair Kd.string k27) (fun x : S76 => (x.f0, x.f1))
theorem k76_open {w : World} {x : S76} {cs : List Value} (h : k76.K w x cs) : cs = [.string x.f0, .int .i64 x.f1.f0, .int .i64 x.f1.f1, .string x.f1.f2] := by
  obtain ⟨_, _, rfl, rfl, s1⟩ := h
  obtain rfl := k27_open s1
  exact rfl
theorem k76_openM {w : World} {base : Nat} {ok : Nat → Prop} {x : S76} {cs : List Value} (h : k76.M w base ok x cs) : cs = [.string x.f0, .int .i64 x.f1.f0, .int .i64 x.f1.f1, .string x.f1.f2] := by
  obtain ⟨_, _, rfl, rfl, s1⟩ := h
  obtain rfl := k27_openM s1
  exact rfl
theorem k76_mk (w : World) (x : S76)  : k76.K w x [.string x.f0, .int .i64 x.f1.f0, .int .i64 x.f1.f1, .string x.f1.f2] := ⟨[.string x.f0], [.int .i64 x.f1.f0, .int .i64 x.f1.f1, .string x.f1.f2], rfl, rfl, (k27_mk w x.f1 )⟩
theorem k76_mkM (w : World) (base : Nat) (ok : Nat → Prop) (x : S76)  : k76.M w base ok x [.string x.f0, .int .i64 x.f1.f0, .int .i64 x.f1.f1, .string x.f1.f2] := ⟨[.string x.f0], [.int .i64 x.f1.f0, .int .i64 x.f1.f1, .string x.f1.f2], rfl, rfl, (k27_mkM w base ok x.f1 )⟩
theorem k76_mkF (W : World) (ok : Nat → Prop) (x : S76) : Kd.FK k76 W ok x [.string x.f0, .int .i64 x.f1.f0, .int .i64 x.f1.f1, .string x.f1.f2] := fun W2 _ => k76_mk W2 x
def rd_T76 (xs : List S76) (i : Int) : S76 := xs.getD i.toNat z76
theorem at_T76 {w : World} {A : Option Addr} {n : Nat} {xs : List S76} (h : Kd.C k76 w A n xs) (i : Int) (h0 : 0 ≤ i) (h1 : i < n) : ∃ ad , A = some ad ∧ w.cell? (ad.add (i.toNat * 4)) = some (.string (rd_T76 xs i).f0) ∧ w.cell? ⟨(ad.add (i.toNat * 4)).block, (ad.add (i.toNat * 4)).off + 1, none⟩ = some (.int .i64 (rd_T76 xs i).f1.f0) ∧ w.cell? ⟨(ad.add (i.toNat * 4)).block, (ad.add (i.toNat * 4)).off + 2, none⟩ = some (.int .i64 (rd_T76 xs i).f1.f1) ∧ w.cell? ⟨(ad.add (i.toNat * 4)).block, (ad.add (i.toNat * 4)).off + 3, none⟩ = some (.string (rd_T76 xs i).f1.f2) := by
  obtain ⟨ad, c, e, _, hK, hc0⟩ := Kd.C_get h z76 i h0 h1
  have hc : ∀ j u, c[j]? = some u → w.cell? (ad.add (i.toNat * 4 + j)) = some u := hc0
  obtain rfl := k76_open hK
  exact ⟨ad, e, hc 0 _ rfl, by rw [← add_field _ _ 1 (by omega)]; exact hc 1 _ rfl, by rw [← add_field _ _ 2 (by omega)]; exact hc 2 _ rfl, by rw [← add_field _ _ 3 (by omega)]; exact hc 3 _ rfl⟩

def rd_L4 (xs : List (List S76)) (i : Int) : (List S76) := xs.getD i.toNat ([] : List S76)
theorem at_L4 {w : World} {A : Option Addr} {n : Nat} {xs : List (List S76)} (h : Kd.C (Kd.slice 76 k76) w A n xs) (i : Int) (h0 : 0 ≤ i) (h1 : i < n) : ∃ ad A0 c0, A = some ad ∧ w.cell? (ad.add i.toNat) = some (.slice A0 (rd_L4 xs i).length c0) ∧ (rd_L4 xs i).length ≤ c0 ∧ k76.C w A0 (rd_L4 xs i).length (rd_L4 xs i) := by
  obtain ⟨ad, c, e, _, hK, hc0⟩ := Kd.C_get h ([] : List S76) i h0 h1
  have hc : ∀ j u, c[j]? = some u → w.cell? (ad.add (i.toNat * 1 + j)) = some u := hc0
  obtain ⟨A0, c0, rfl, l0, g0⟩ := hK
  exact ⟨ad, A0, c0, e, by have hq := hc 0 _ rfl; rwa [Nat.mul_one, Nat.add_zero] at hq, l0, g0⟩

/-! #### struct type 63 -/
structure S63 where
  f0 : ByteArray
  f1 : (List S76)
def z63 : S63 := ⟨(⟨#[]⟩ : ByteArray), ([] : List S76)⟩
def k63 : Kd S63 := Kd.iso (Kd.pair Kd.string (Kd.slice 76 k76)) (fun x : S63 => (x.f0, x.f1))
theorem k63_open {w : World} {x : S63} {cs : List Value} (h : k63.K w x cs) : ∃ A1 c1, cs = [.string x.f0, .slice A1 x.f1.length c1] ∧ x.f1.length ≤ c1 ∧ k76.C w A1 x.f1.length x.f1 := by
  obtain ⟨_, _, rfl, rfl, ⟨A1, c1, rfl, l1, g1⟩⟩ := h
  exact ⟨A1, c1, rfl, l1, g1⟩
theorem k63_openM {w : World} {base : Nat} {ok : Nat → Prop} {x : S63} {cs : List Value} (h : k63.M w base ok x cs) : ∃ v1, cs = [.string x.f0, v1] ∧ k76.R 76 w base ok v1 x.f1 := by
  obtain ⟨_, _, rfl, rfl, ⟨v1, rfl, g1⟩⟩ := h
  exact ⟨v1, rfl, g1⟩
theorem k63_mk (w : World) (x : S63) {A1 : Option Addr} {c1 : Nat} (l1 : x.f1.length ≤ c1) (g1 : k76.C w A1 x.f1.length x.f1) : k63.K w x [.string x.f0, .slice A1 x.f1.length c1] := ⟨[.string x.f0], [.slice A1 x.f1.length c1], rfl, rfl, ⟨A1, c1, rfl, l1, g1⟩⟩
theorem k63_mkM (w : World) (base : Nat) (ok : Nat → Prop) (x : S63) {v1 : Value} (g1 : k76.R 76 w base ok v1 x.f1) : k63.M w base ok x [.string x.f0, v1] := ⟨[.string x.f0], [v1], rfl, rfl, ⟨v1, rfl, g1⟩⟩
theorem k63_openF {W : World} {ok : Nat → Prop} {x : S63} {cs : List Value} (h : Kd.FK k63 W ok x cs) : ∃ A1 c1, cs = [.string x.f0, .slice A1 x.f1.length c1] ∧ x.f1.length ≤ c1 ∧ Kd.F k76 W ok A1 x.f1.length x.f1 := by
  obtain ⟨A1, c1, rfl, l1, _⟩ := k63_open (Kd.FK_now h)
  exact ⟨A1, c1, rfl, l1, (fun W' hW => by obtain ⟨A1_, c1_, he, l1_, g1_⟩ := k63_open (h W' hW); injection (Option.some.inj (show some (Value.slice A1 x.f1.length c1) = some (Value.slice A1_ x.f1.length c1_) from congrArg (fun l => l[1]?) he)) with ha_ _ _; rw [ha_]; exact g1_)⟩
theorem k63_mkF (W : World) (ok : Nat → Prop) (x : S63) {A1 : Option Addr} {c1 : Nat} (l1 : x.f1.length ≤ c1) (g1 : Kd.F k76 W ok A1 x.f1.length x.f1) : Kd.FK k63 W ok x [.string x.f0, .slice A1 x.f1.length c1] := fun W2 hW => k63_mk W2 x l1 (g1 W2 hW)
def rd_T63 (xs : List S63) (i : Int) : S63 := xs.getD i.toNat z63
theorem at_T63 {w : World} {A : Option Addr} {n : Nat} {xs : List S63} (h : Kd.C k63 w A n xs) (i : Int) (h0 : 0 ≤ i) (h1 : i < n) : ∃ ad A1 c1, A = some ad ∧ w.cell? (ad.add (i.toNat * 2)) = some (.string (rd_T63 xs i).f0) ∧ w.cell? ⟨(ad.add (i.toNat * 2)).block, (ad.add (i.toNat * 2)).off + 1, none⟩ = some (.slice A1 (rd_T63 xs i).f1.length c1) ∧ (rd_T63 xs i).f1.length ≤ c1 ∧ k76.C w A1 (rd_T63 xs i).f1.length (rd_T63 xs i).f1 := by
  obtain ⟨ad, c, e, _, hK, hc0⟩ := Kd.C_get h z63 i h0 h1
  have hc : ∀ j u, c[j]? = some u → w.cell? (ad.add (i.toNat * 2 + j)) = some u := hc0
  obtain ⟨A1, c1, rfl, l1, g1⟩ := k63_open hK
  exact ⟨ad, A1, c1, e, hc 0 _ rfl, by rw [← add_field _ _ 1 (by omega)]; exact hc 1 _ rfl, l1, g1⟩

def rd_L6 (xs : List (List S63)) (i : Int) : (List S63) := xs.getD i.toNat ([] : List S63)
theorem at_L6 {w : World} {A : Option Addr} {n : Nat} {xs : List (List S63)} (h : Kd.C (Kd.slice 63 k63) w A n xs) (i : Int) (h0 : 0 ≤ i) (h1 : i < n) : ∃ ad A0 c0, A = some ad ∧ w.cell? (ad.add i.toNat) = some (.slice A0 (rd_L6 xs i).length c0) ∧ (rd_L6 xs i).length ≤ c0 ∧ k63.C w A0 (rd_L6 xs i).length (rd_L6 xs i) := by
  obtain ⟨ad, c, e, _, hK, hc0⟩ := Kd.C_get h ([] : List S63) i h0 h1
  have hc : ∀ j u, c[j]? = some u → w.cell? (ad.add (i.toNat * 1 + j)) = some u := hc0
  obtain ⟨A0, c0, rfl, l0, g0⟩ := hK
  exact ⟨ad, A0, c0, e, by have hq := hc 0 _ rfl; rwa [Nat.mul_one, Nat.add_zero] at hq, l0, g0⟩

def rd_L7 (xs : List (List S27)) (i : Int) : (List S27) := xs.getD i.toNat ([] : List S27)
theorem at_L7 {w : World} {A : Option Addr} {n : Nat} {xs : List (List S27)} (h : Kd.C (Kd.slice 27 k27) w A n xs) (i : Int) (h0 : 0 ≤ i) (h1 : i < n) : ∃ ad A0 c0, A = some ad ∧ w.cell? (ad.add i.toNat) = some (.slice A0 (rd_L7 xs i).length c0) ∧ (rd_L7 xs i).length ≤ c0 ∧ k27.C w A0 (rd_L7 xs i).length (rd_L7 xs i) := by
  obtain ⟨ad, c, e, _, hK, hc0⟩ := Kd.C_get h ([] : List S27) i h0 h1
  have hc : ∀ j u, c[j]? = some u → w.cell? (ad.add (i.toNat * 1 + j)) = some u := hc0
  obtain ⟨A0, c0, rfl, l0, g0⟩ := hK
  exact ⟨ad, A0, c0, e, by have hq := hc 0 _ rfl; rwa [Nat.mul_one, Nat.add_zero] at hq, l0, g0⟩

/-! #### struct type 39 -/
structure S39 where
  f0 : ByteArray
  f1 : S27
  f2 : Int
  f3 : Int
  f4 : Bool
  f5 : Bool
def z39 : S39 := ⟨(⟨#[]⟩ : ByteArray), z27, (0 : Int), (0 : Int), false, false⟩
def k39 : Kd S39 := Kd.iso (Kd.pair Kd.string (Kd.pair k27 (Kd.pair (Kd.int .i64) (Kd.pair (Kd.int .i64) (Kd.pair Kd.bool Kd.bool))))) (fun x : S39 => (x.f0, x.f1, x.f2, x.f3, x.f4, x.f5))
theorem k39_open {w : World} {x : S39} {cs : List Value} (h : k39.K w x cs) : cs = [.string x.f0, .int .i64 x.f1.f0, .int .i64 x.f1.f1, .string x.f1.f2, .int .i64 x.f2, .int .i64 x.f3, .bool x.f4, .bool x.f5] := by
  obtain ⟨_, _, rfl, rfl, ⟨_, _, rfl, s1, ⟨_, _, rfl, rfl, ⟨_, _, rfl, rfl, ⟨_, _, rfl, rfl, rfl⟩⟩⟩⟩⟩ := h
  obtain rfl := k27_open s1
  exact rfl
theorem k39_openM {w : World} {base : Nat} {ok : Nat → Prop} {x : S39} {cs : List Value} (h : k39.M w base ok x cs) : cs = [.string x.f0, .int .i64 x.f1.f0, .int .i64 x.f1.f1, .string x.f1.f2, .int .i64 x.f2, .int .i64 x.f3, .bool x.f4, .bool x.f5] := by
  obtain ⟨_, _, rfl, rfl, ⟨_, _, rfl, s1, ⟨_, _, rfl, rfl, ⟨_, _, rfl, rfl, ⟨_, _, rfl, rfl, rfl⟩⟩⟩⟩⟩ := h
  obtain rfl := k27_openM s1
  exact rfl
theorem k39_mk (w : World) (x : S39)  : k39.K w x [.string x.f0, .int .i64 x.f1.f0, .int .i64 x.f1.f1, .string x.f1.f2, .int .i64 x.f2, .int .i64 x.f3, .bool x.f4, .bool x.f5] := ⟨[.string x.f0], [.int .i64 x.f1.f0, .int .i64 x.f1.f1, .string x.f1.f2, .int .i64 x.f2, .int .i64 x.f3, .bool x.f4, .bool x.f5], rfl, rfl, ⟨[.int .i64 x.f1.f0, .int .i64 x.f1.f1, .string x.f1.f2], [.int .i64 x.f2, .int .i64 x.f3, .bool x.f4, .bool x.f5], rfl, (k27_mk w x.f1 ), ⟨[.int .i64 x.f2], [.int .i64 x.f3, .bool x.f4, .bool x.f5], rfl, rfl, ⟨[.int .i64 x.f3], [.bool x.f4, .bool x.f5], rfl, rfl, ⟨[.bool x.f4], [.bool x.f5], rfl, rfl, rfl⟩⟩⟩⟩⟩
theorem k39_mkM (w : World) (base : Nat) (ok : Nat → Prop) (x : S39)  : k39.M w base ok x [.string x.f0, .int .i64 x.f1.f0, .int .i64 x.f1.f1, .string x.f1.f2, .int .i64 x.f2, .int .i64 x.f3, .bool x.f4, .bool x.f5] := ⟨[.string x.f0], [.int .i64 x.f1.f0, .int .i64 x.f1.f1, .string x.f1.f2, .int .i64 x.f2, .int .i64 x.f3, .bool x.f4, .bool x.f5], rfl, rfl, ⟨[.int .i64 x.f1.f0, .int .i64 x.f1.f1, .string x.f1.f2], [.int .i64 x.f2, .int .i64 x.f3, .bool x.f4, .bool x.f5], rfl, (k27_mkM w base ok x.f1 ), ⟨[.int .i64 x.f2], [.int .i64 x.f3, .bool x.f4, .bool x.f5], rfl, rfl, ⟨[.int .i64 x.f3], [.bool x.f4, .bool x.f5], rfl, rfl, ⟨[.bool x.f4], [.bool x.f5], rfl, rfl, rfl⟩⟩⟩⟩⟩
theorem k39_mkF (W : World) (ok : Nat → Prop) (x : S39) : Kd.FK k39 W ok x [.string x.f0, .int .i64 x.f1.f0, .int .i64 x.f1.f1, .string x.f1.f2, .int .i64 x.f2, .int .i64 x.f3, .bool x.f4, .bool x.f5] := fun W2 _ => k39_mk W2 x
def rd_T39 (xs : List S39) (i : Int) : S39 := xs.getD i.toNat z39
theorem at_T39 {w : World} {A : Option Addr} {n : Nat} {xs : List S39} (h : Kd.C k39 w A n xs) (i : Int) (h0 : 0 ≤ i) (h1 : i < n) : ∃ ad , A = some ad ∧ w.cell? (ad.add (i.toNat * 8)) = some (.string (rd_T39 xs i).f0) ∧ w.cell? ⟨(ad.add (i.toNat * 8)).block, (ad.add (i.toNat * 8)).off + 1, none⟩ = some (.int .i64 (rd_T39 xs i).f1.f0) ∧ w.cell? ⟨(ad.add (i.toNat * 8)).block, (ad.add (i.toNat * 8)).off + 2, none⟩ = some (.int .i64 (rd_T39 xs i).f1.f1) ∧ w.cell? ⟨(ad.add (i.toNat * 8)).block, (ad.add (i.toNat * 8)).off + 3, none⟩ = some (.string (rd_T39 xs i).f1.f2) ∧ w.cell? ⟨(ad.add (i.toNat * 8)).block, (ad.add (i.toNat * 8)).off + 4, none⟩ = some (.int .i64 (rd_T39 xs i).f2) ∧ w.cell? ⟨(ad.add (i.toNat * 8)).block, (ad.add (i.toNat * 8)).off + 5, none⟩ = some (.int .i64 (rd_T39 xs i).f3) ∧ w.cell? ⟨(ad.add (i.toNat * 8)).block, (ad.add (i.toNat * 8)).off + 6, none⟩ = some (.bool (rd_T39 xs i).f4) ∧ w.cell? ⟨(ad.add (i.toNat * 8)).block, (ad.add (i.toNat * 8)).off + 7, none⟩ = some (.bool (rd_T39 xs i).f5) := by
  obtain ⟨ad, c, e, _, hK, hc0⟩ := Kd.C_get h z39 i h0 h1
  have hc : ∀ j u, c[j]? = some u → w.cell? (ad.add (i.toNat * 8 + j)) = some u := hc0
  obtain rfl := k39_open hK
  exact ⟨ad, e, hc 0 _ rfl, by rw [← add_field _ _ 1 (by omega)]; exact hc 1 _ rfl, by rw [← add_field _ _ 2 (by omega)]; exact hc 2 _ rfl, by rw [← add_field _ _ 3 (by omega)]; exact hc 3 _ rfl, by rw [← add_field _ _ 4 (by omega)]; exact hc 4 _ rfl, by rw [← add_field _ _ 5 (by omega)]; exact hc 5 _ rfl, by rw [← add_field _ _ 6 (by omega)]; exact hc 6 _ rfl, by rw [← add_field _ _ 7 (by omega)]; exact hc 7 _ rfl⟩

def rd_L10 (xs : List (List S39)) (i : Int) : (List S39) := xs.getD i.toNat ([] : List S39)
theorem at_L10 {w : World} {A : Option Addr} {n : Nat} {xs : List (List S39)} (h : Kd.C (Kd.slice 39 k39) w A n xs) (i : Int) (h0 : 0 ≤ i) (h1 : i < n) : ∃ ad A0 c0, A = some ad ∧ w.cell? (ad.add i.toNat) = some (.slice A0 (rd_L10 xs i).length c0) ∧ (rd_L10 xs i).length ≤ c0 ∧ k39.C w A0 (rd_L10 xs i).length (rd_L10 xs i) := by
  obtain ⟨ad, c, e, _, hK, hc0⟩ := Kd.C_get h ([] : List S39) i h0 h1
  have hc : ∀ j u, c[j]? = some u → w.cell? (ad.add (i.toNat * 1 + j)) = some u := hc0
  obtain ⟨A0, c0, rfl, l0, g0⟩ := hK
  exact ⟨ad, A0, c0, e, by have hq := hc 0 _ rfl; rwa [Nat.mul_one, Nat.add_zero] at hq, l0, g0⟩

end Go.Proofs.Ytigkoknabliboaa.PAll
