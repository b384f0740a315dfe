/- The library's Clone, Grow and Concat of nodes; copied: a row of trees that shares nothing. -/
import Derived.Test.YtbheobngeocdfaaG1
import Derived.Lib.AppendZerosOnto
import Derived.Lib.SliceRun
namespace Go.Proofs.Ytbheobngeocdfaa.PAll
open Go.RowKit Go.Proofs.YtbheobngeocdfaaW.PrintWords Go.Proofs.YtbheobngeocdfaaW.PrintLast Go.Proofs.YtbheobngeocdfaaW.PrintMore
set_option linter.unusedVariables false
set_option linter.unusedSimpArgs false

/-- a node whose Kids are of the call's own (true), or as they lay in wR (false) -/
def kB (wR : World) : Kd (S24 × Bool) where
  sz := 5
  E := [24]
  K w p cs := (p.2 = true ∧ k24.K w p.1 cs) ∨ (p.2 = false ∧ k24.K wR p.1 cs)
  M w base ok p cs := (p.2 = true ∧ k24.M w base ok p.1 cs) ∨ (p.2 = false ∧ k24.K wR p.1 cs)
  K_len h := by rcases h with h | h <;> exact k24.K_len h.2
  K_one h := by rcases h with h | h <;> exact k24.K_one h.2
  K_below hb h := by
    rcases h with h | h
    · exact .inl ⟨h.1, k24.K_below hb h.2⟩
    · exact .inr h
  K_of_M h := by
    rcases h with h | h
    · exact .inl ⟨h.1, k24.K_of_M h.2⟩
    · exact .inr h
  M_mono hk h := by
    rcases h with h | h
    · exact .inl ⟨h.1, k24.M_mono hk h.2⟩
    · exact .inr h
  M_bound h := by
    rcases h with h | h
    · exact .inl ⟨h.1, k24.M_bound h.2⟩
    · exact .inr h
  M_move hm h := by
    rcases h with h | h
    · exact .inl ⟨h.1, k24.M_move hm h.2⟩
    · exact .inr h
  M_lower hb h := by
    rcases h with h | h
    · exact .inl ⟨h.1, k24.M_lower hb h.2⟩
    · exact .inr h
def came (l : List S24) : List (S24 × Bool) := l.map (fun x => (x, false))
def Rr (w : World) (p : S24 × Bool) (cs : List Value) : Prop := p.2 = false ∧ k24.K w p.1 cs
theorem reads_came {w W : World} {A : Option Addr} {l : List S24} (h : k24.C w A l.length l) (hb : Below w.heap.size w W) : ReadsRow (Rr w) 5 W A l.length (came l) := by
  refine ⟨by simp [came], h.2.1, fun hn => ?_⟩
  obtain ⟨ad, e, hc⟩ := h.2.2 hn
  refine ⟨ad, e, fun j p hj => ?_⟩
  rw [came, List.getElem?_map] at hj
  obtain ⟨x, hx, rfl⟩ := Option.map_eq_some_iff.1 hj
  obtain ⟨c, hl, hK, hcell⟩ := hc j x hx
  exact ⟨c, hl, ⟨rfl, hK⟩, fun i u hu => (hb.cell (World.block_lt_of_cell? w _ (hcell i u hu))).trans (hcell i u hu)⟩

set_option maxRecDepth 100000 in
set_option maxHeartbeats 4000000 in
theorem Clone_calls (l : List S24) (A : Option Addr) (c : Nat) (w : World) (hC : k24.C w A l.length l) (hc : l.length ≤ c) (hn : l.length < 1099511627776) :
    Calls Try.prog 89 #[.slice A l.length c] w fun e w' => ∃ v : Value, e = .returned v ∧ Kd.R (kB w) 24 w' w.heap.size (fun _ => True) v (came l) ∧ Below w.heap.size w w' := by
  have hu22 := Try.underlying22
  have q22 : ∀ (w : World) (a : Option Addr) (n c n' c' : Nat), (binOp .eql 22 (.slice a n c) (.slice none n' c')).run Try.prog w = .ok (.bool a.isNone) w := fun w a n c n' c' => Lib.run_eql_slice_nil w _ _ a n c n' c' Try.underlying22
  have HN := Aside0.mk hn
  cases A with
  | none =>
    have hl : l = [] := by
      cases l with
      | nil => rfl
      | cons x xs => obtain ⟨ad, e, _⟩ := hC.2.2 (by simp); cases e
    subst hl
    clear hC hc hn
    go_enter Try.func89, Try.ntmps89
    go_wp2
    go_ret
    exact ⟨_, rfl, Kd.R_nil _ _ _ _ _, Below.refl _ _⟩
  | some ad =>
    have HC := Aside0.mk hC
    have HCC := Aside0.mk hc
    clear hC hc hn
    go_enter Try.func89, Try.ntmps89
    go_wp2_with (at_builtin; refine Kd.R_append_rows (kB w) (Rr := Rr w) (w0 := w) w.heap.size rfl _ _ 22 24 (.agg #[(.int .i64 0), (.string ⟨#[]⟩), (.int .i64 0), (.int .i64 0), (.slice none 0 0)]) 64 rfl Try.underlying22 info24 rfl (show 0 < 5 by decide) (by decide) _ [] (came l) (some ad) l.length c (fun _ => True) (fun _ => False) rfl rfl ?qO ?qR ?qK (fun _ h => h.elim) (fun _ _ => trivial) ?qB ?qS ?qL ?_)
    case qO => exact ⟨fun _ _ => trivial, [], World.ownsRow_made w #[] 0 (Nat.le_refl _) (Nat.zero_le _) (by rfl), Reps.none _ _⟩
    case qR => exact reads_came HC.out ((Below.refl w.heap.size w).alloc (Nat.le_refl _) _)
    case qK => exact fun x cs h => .inr h
    case qB => exact (Below.refl w.heap.size w).alloc (Nat.le_refl _) _
    case qS => simp
    case qL => have := HN.out; simp only [List.length_nil]; omega
    intro v1 w1 hR hb hg hat
    have HR := Aside0.mk hR
    have HB := Aside0.mk hb
    clear hR hb hg hat
    go_wp2
    go_ret
    exact ⟨v1, rfl, HR.out, HB.out⟩

theorem wrap_ok_ {z : Int} (h1 : -9223372036854775808 ≤ z) (h2 : z < 9223372036854775808) : wrap64 z = z := by unfold wrap64; omega
set_option maxRecDepth 100000 in
set_option maxHeartbeats 4000000 in
theorem Grow_calls (n : Nat) (wR w : World) (hn : n < 1099511627776) :
    Calls Try.prog 90 #[.slice none 0 0, .int .i64 (n : Int)] w fun e w' => ∃ v : Value, e = .returned v ∧ Kd.R (kB wR) 24 w' w.heap.size (fun _ => True) v [] ∧ Below w.heap.size w w' := by
  have hu22 := Try.underlying22
  have h1 : ¬ ((n : Int) < 0) := by omega
  cases n with
  | zero =>
    go_enter Try.func90, Try.ntmps90
    go_wp2
    go_ret
    exact ⟨_, rfl, Kd.R_nil _ _ _ _ _, Below.refl _ _⟩
  | succ n =>
    obtain ⟨O, hO⟩ : ∃ O : Nat, O = n + 1 := ⟨_, rfl⟩
    rw [← hO] at hn h1 ⊢
    have hO1 : 0 < O := by omega
    clear hO
    obtain ⟨i0, hi, hzz⟩ := Option.map_eq_some_iff.1 info24
    simp only [Prod.mk.injEq] at hzz
    obtain ⟨hz0, hz1, hz2⟩ := hzz
    have hold : (Builtin.firstCells i0.size 0 (.slice none 0 0)).run Try.prog w.drew = .ok (#[] : Array Value) w.drew := run_firstCells_none w.drew i0.size 0 0 0
    have hrz : ∀ ty, (Builtin.append_ #[22, 3] ty #[.slice none 0 0, .int .i64 (O : Int)]).run Try.prog w = _ := fun ty =>
      Lib.run_append_grow_zeros w 22 3 ty 24 i0 _ .i64 .i64 Try.underlying22 Try.underlying3 hi hz0 none 0 0 [] hold O hO1 (by omega) (by omega) (by omega) (by rw [hz2]; omega) (growslice_fits (by omega) (by rw [hz2]; omega))
    rw [Nat.zero_add] at hrz
    have hG := grownCap_le_maxLen w O 0 24 (by unfold maxLen; omega)
    have hG2 := grownCap_ge w O 0 24
    obtain ⟨G, hGe⟩ : ∃ G, G = grownCap w O 0 24 := ⟨_, rfl⟩
    rw [← hGe] at hrz hG hG2
    obtain ⟨cur, hcur⟩ : ∃ cur : Array Value, cur = (([] : List Value).toArray ++ Builtin.zeroCells (Value.agg #[(.int .i64 0), (.string ⟨#[]⟩), (.int .i64 0), (.int .i64 0), (.slice none 0 0)]).cells O ++ Builtin.zeroCells (Value.agg #[(.int .i64 0), (.string ⟨#[]⟩), (.int .i64 0), (.int .i64 0), (.slice none 0 0)]).cells (G - O)) := ⟨_, rfl⟩
    have hsz : cur.size = G * 5 := by
      have e5 : (Value.agg #[(.int .i64 0), (.string ⟨#[]⟩), (.int .i64 0), (.int .i64 0), (.slice none 0 0)]).cells.size = 5 := rfl
      rw [hcur, Array.size_append, Array.size_append, size_zeroCells, size_zeroCells, e5]
      simp; omega
    rw [← hcur] at hrz
    have hw1 : wrap64 ((O : Int) - 0) = (O : Int) := wrap_ok_ (by omega) (by omega)
    have hw2 : wrap64 ((0 : Int) - 0) = 0 := wrap_ok_ (by omega) (by omega)
    have hpos : ((O : Int) > 0) := by omega
    clear hold hGe hcur hi hz0 hz1 hz2
    go_enter Try.func90, Try.ntmps90
    go_wp2_with (at_builtin; refine Lib.wpList_append_run _ rfl _ _ _ _ rfl _ _ rfl rfl _ _ (hrz _) ?_)
    go_ret
    refine ⟨_, rfl, ⟨fun _ _ => trivial, [], ⟨rfl, .inr ⟨w.heap.size, G, cur, rfl, Nat.le_refl _, World.alloc_heap_new _ _, Nat.zero_le _, hG, hsz, rfl⟩⟩, Reps.none _ _⟩, (below_drew1 (Below.refl w.heap.size w)).alloc (Nat.le_refl _) _⟩

theorem flat_take {α : Type} (ls : List (List α)) (j : Nat) (h : j < ls.length) : (ls.take (j + 1)).flatten = (ls.take j).flatten ++ ls[j] := by
  rw [List.take_succ_eq_append_getElem h, List.flatten_append]; simp
theorem flat_le {α : Type} (ls : List (List α)) (j : Nat) : (ls.take j).flatten.length ≤ ls.flatten.length := by
  have := congrArg List.length (congrArg List.flatten (List.take_append_drop j ls))
  rw [List.flatten_append, List.length_append] at this
  omega
theorem came_append (a b : List S24) : came (a ++ b) = came a ++ came b := by simp [came]

set_option maxRecDepth 100000 in
set_option maxHeartbeats 8000000 in
theorem Concat_calls (ls : List (List S24)) (A : Option Addr) (c : Nat) (w : World) (hC : Kd.C (Kd.slice 24 k24) w A ls.length ls) (hc : ls.length ≤ c) (hn : ls.flatten.length < 1099511627776) (hl : ls.length < 1099511627776) :
    Calls Try.prog 72 #[.slice A ls.length c] w fun e w' => ∃ v : Value, e = .returned v ∧ Kd.R (kB w) 24 w' w.heap.size (fun _ => True) v (came ls.flatten) ∧ Below w.heap.size w w' := by
  have hu22 := Try.underlying22
  have hu80 := Try.underlying80
  have HN := Aside0.mk hn
  have HL := Aside0.mk hl
  have HC := Aside0.mk hC
  have HCC := Aside0.mk hc
  clear hn hl hC hc
  have hget : ∀ (j : Nat) (hj : j < ls.length), ∃ ad A0 c0, A = some ad ∧ w.cell? (ad.add j) = some (.slice A0 ls[j].length c0) ∧ ls[j].length ≤ c0 ∧ k24.C w A0 ls[j].length ls[j] := fun j hj => by
    obtain ⟨ad, A0, c0, e, h1, h2, h3⟩ := at_L3 HC.out (j : Int) (by omega) (by omega)
    have hx : rd_L3 ls (j : Int) = ls[j] := by simp [rd_L3, List.getElem?_eq_getElem hj]
    rw [hx] at h1 h2 h3
    rw [Int.toNat_natCast] at h1
    exact ⟨ad, A0, c0, e, h1, h2, h3⟩
  have HG := Aside0.mk hget
  clear hget
  obtain ⟨S, hS⟩ : ∃ S : Nat → Nat, ∀ j, S j = (ls.take j).flatten.length := ⟨fun j => (ls.take j).flatten.length, fun _ => rfl⟩
  have hS0 : S 0 = 0 := by rw [hS]; simp
  have HS1 : Aside0 (∀ j (h : j < ls.length), S (j + 1) = S j + ls[j].length) := ⟨fun j h => by rw [hS, hS, flat_take ls j h, List.length_append]⟩
  have HSL : Aside0 (∀ j, S j ≤ ls.flatten.length) := ⟨fun j => by rw [hS]; exact flat_le ls j⟩
  have HSE : Aside0 (S ls.length = ls.flatten.length) := ⟨by rw [hS, List.take_length]⟩
  have HS := Aside0.mk hS
  clear hS
  go_enter Try.func72, Try.ntmps72
  go_wp2_with fail
  go_loopw [11, 3] (fun p q wr => ∃ j : Nat, p = .int .i64 (j : Int) ∧ q = .int .i64 (S j : Int) ∧ j ≤ ls.length ∧ w = wr)
    (fun p q wr => ls.length - (intOf p).toNat)
  case atStart => exact ⟨0, rfl, by rw [hS0]; rfl, Nat.zero_le _, rfl⟩
  case round =>
    clear hS0
    obtain ⟨j, rfl, rfl, hjl, rfl⟩ := hrel
    by_cases hlt : j < ls.length
    · have hlt1 : (j : Int) < (ls.length : Int) := by omega
      have hge : (0 : Int) ≤ (j : Int) := by omega
      obtain ⟨ad, A0, c0, rfl, h1, h2, h3⟩ := HG.out j hlt
      have hs : wrap64 ((S j : Int) + (ls[j].length : Int)) = (S (j + 1) : Int) := by have h4 := HS1.out j hlt; have h5 := HSL.out (j + 1); rw [wrap_ok_ (by omega) (by have := HN.out; omega)]; omega
      have hs0 : ¬ ((S (j + 1) : Int) < 0) := by omega
      clear h2 h3
      go_wp2_with fail
      go_roundw
      case rel => exact ⟨j + 1, by rw [wrap_ok_ (by omega) (by have := HL.out; omega)]; rfl, by first | rfl | rw [hs], hlt, trivial⟩
      case measure => rw [wrap_ok_ (by omega) (by have := HL.out; omega)]; show ls.length - ((j : Int) + 1).toNat < ls.length - (j : Int).toNat; omega
    · have hje : j = ls.length := by omega
      have hlt' : ¬ ((j : Int) < (ls.length : Int)) := by omega
      obtain ⟨M, hM⟩ : ∃ M, M = S j := ⟨_, rfl⟩
      rw [← hM]
      have hgr := Aside0.mk (Grow_calls M w w (by have := HN.out; have := HSL.out j; omega))
      clear hM
      go_wp2_with fail
      refine hgr.out.mono ?_
      clear hgr
      rintro e w1 ⟨v, rfl, hR, hb⟩
      have HR := Aside0.mk hR
      have HB := Aside0.mk hb
      clear hR hb hlt'
      go_wp2_with fail
      go_loopw [27, 6] (fun p q wr => ∃ (j : Nat) (v : Value), p = .int .i64 (j : Int) ∧ v = q ∧ j ≤ ls.length ∧ Aside0 (Kd.R (kB w) 24 wr w.heap.size (fun _ => True) v (came (ls.take j).flatten)) ∧ Aside0 (Below w.heap.size w wr))
        (fun p q wr => ls.length - (intOf p).toNat)
      case atStart => exact ⟨0, v, rfl, rfl, Nat.zero_le _, HR, HB⟩
      case round =>
        clear HR HB
        obtain ⟨j, v, rfl, rfl, hjl, HR, HB⟩ := hrel
        by_cases hlt : j < ls.length
        · have hlt1 : (j : Int) < (ls.length : Int) := by omega
          have hge : (0 : Int) ≤ (j : Int) := by omega
          obtain ⟨ad, A0, c0, rfl, h1, h2, h3⟩ := HG.out j hlt
          have h1' := (HB.out.cell (World.block_lt_of_cell? w _ h1)).trans h1
          have HRD := Aside0.mk (reads_came h3 HB.out)
          have hle := flat_le ls (j + 1)
          have hfl := congrArg List.length (flat_take ls j hlt)
          rw [List.length_append] at hfl
          have HLE : Aside0 ((ls.take j).flatten.length + ls[j].length ≤ ls.flatten.length) := ⟨by omega⟩
          clear hle hfl h1 h2 h3
          go_wp2_with (at_builtin; refine Kd.R_append_rows (kB w) (Rr := Rr w) (w0 := w) w.heap.size rfl _ _ 22 24 (.agg #[(.int .i64 0), (.string ⟨#[]⟩), (.int .i64 0), (.int .i64 0), (.slice none 0 0)]) 64 rfl Try.underlying22 info24 rfl (show 0 < 5 by decide) (by decide) _ (came (ls.take j).flatten) (came ls[j]) A0 ls[j].length c0 (fun _ => True) (fun _ => False) rfl rfl ?qO ?qR ?qK (fun _ h => h.elim) (fun _ _ => trivial) ?qB ?qS ?qL ?_)
          case qO => exact HR.out
          case qR => exact HRD.out
          case qK => exact fun x cs h => .inr h
          case qB => exact HB.out
          case qS => exact HB.out.size
          case qL => have := HN.out; have := HLE.out; simp only [came, List.length_map]; omega
          intro v1 w3 hR hb hg hat
          have HR1 := Aside0.mk hR
          have HB1 := Aside0.mk hb
          clear hR hb hg hat
          go_wp2_with fail
          go_roundw
          case rel => exact ⟨j + 1, v1, by rw [wrap_ok_ (by omega) (by have := HL.out; omega)]; rfl, rfl, hlt, ⟨by rw [flat_take ls j hlt, came_append]; exact HR1.out⟩, HB1⟩
          case measure => rw [wrap_ok_ (by omega) (by have := HL.out; omega)]; show ls.length - ((j : Int) + 1).toNat < ls.length - (j : Int).toNat; omega
        · have hje : j = ls.length := by omega
          have hlt' : ¬ ((j : Int) < (ls.length : Int)) := by omega
          go_wp2_with fail
          go_ret
          exact ⟨_, rfl, by have := HR.out; rwa [hje, List.take_length] at this, HB.out⟩

theorem R_form {α : Type} {d : Kd α} {e base : Nat} {ok : Nat → Prop} {W : World} {v : Value} {xs : List α} (h : d.R e W base ok v xs) : ∃ A c, v = .slice A xs.length c := by
  obtain ⟨_, inner, ho, _⟩ := h
  rcases ho.2 with ⟨e, h0⟩ | ⟨g, cap, cur, e, _⟩
  · exact ⟨none, 0, by rw [e, h0]⟩
  · exact ⟨_, _, e⟩
theorem kB_made {wR W : World} {base : Nat} {ok : Nat → Prop} {v : Value} {l : List S24} (h : Kd.R (kB wR) 24 W base ok v (l.map fun x => (x, true))) : Kd.R k24 24 W base ok v l := by
  obtain ⟨h0, inner, ho, hr⟩ := h
  refine ⟨h0, inner, by rw [List.length_map] at ho; exact ho, ⟨by have := hr.1; rw [List.length_map] at this; exact this, fun j p hj => ?_⟩⟩
  have h1 := hr.2 j (p, true) (by rw [List.getElem?_map, hj]; rfl)
  rcases h1 with h1 | h1
  · exact h1.2
  · cases h1.1
/-- the first j are the call's own -/
def half (l : List S24) (j : Nat) : List (S24 × Bool) := (l.take j).map (fun x => (x, true)) ++ came (l.drop j)
theorem half_length (l : List S24) (j : Nat) (h : j ≤ l.length) : (half l j).length = l.length := by simp [half, came]; omega
theorem half_get {l : List S24} {j : Nat} (h : j < l.length) : (half l j)[j]? = some (l[j], false) := by
  have h1 : ((l.take j).map (fun x => (x, true))).length = j := by simp; omega
  rw [half, List.getElem?_append_right (by omega), h1, Nat.sub_self, came, List.getElem?_map, List.getElem?_drop, Nat.add_zero, List.getElem?_eq_getElem h]; rfl
theorem half_set {l : List S24} {j : Nat} (h : j < l.length) : (half l j).set j (l[j], true) = half l (j + 1) := by
  have h1 : ((l.take j).map (fun x => (x, true))).length = j := by simp; omega
  rw [half, List.set_append_right _ _ (by omega), h1, Nat.sub_self, List.drop_eq_getElem_cons h, half, List.take_succ_eq_append_getElem h]
  simp only [came, List.map_cons, List.set_cons_zero, List.map_append, List.append_assoc, List.map_nil, List.cons_append, List.nil_append]

set_option maxRecDepth 100000 in
set_option maxHeartbeats 8000000 in
theorem copied_calls : ∀ (n : Nat) (l : List S24), (preL24 l).length < n → n < 1099511627776 → ∀ (A : Option Addr) (c : Nat) (w : World), k24.C w A l.length l → l.length ≤ c →
    Calls Try.prog 71 #[.slice A l.length c] w fun e w' => ∃ v : Value, e = .returned v ∧ Kd.R k24 24 w' w.heap.size (fun _ => True) v l ∧ Below w.heap.size w w' := by
  intro n
  induction n with
  | zero => intro l h; omega
  | succ n ih =>
  intro l hl hN A c w hC hc
  have hlen := len_preL24 l
  have HN : Aside0 (l.length < 1099511627776) := ⟨by omega⟩
  have HK : Aside0 (∀ (j : Nat) (hj : j < l.length) A c w, k24.C w A l[j].f4.length l[j].f4 → l[j].f4.length ≤ c → Calls Try.prog 71 #[.slice A l[j].f4.length c] w fun e w' => ∃ v : Value, e = .returned v ∧ Kd.R k24 24 w' w.heap.size (fun _ => True) v l[j].f4 ∧ Below w.heap.size w w') := ⟨fun j hj A c w h1 h2 =>
    ih l[j].f4 (by have h3 := pre_mem24 hj; have h4 := pre24_eq l[j]; rw [h4, List.length_cons] at h3; omega) (by omega) A c w h1 h2⟩
  have HC := Aside0.mk hC
  have HCL := Aside0.mk (Clone_calls l A c w hC hc HN.out)
  clear ih hl hN hlen hC hc
  have hu22 := Try.underlying22
  have hu24 := Try.underlying24
  go_enter Try.func71, Try.ntmps71
  go_wp2_with fail
  refine HCL.out.mono ?_
  clear HCL
  rintro e w1 ⟨v, rfl, hR, hb⟩
  have hcl : (came l).length = l.length := by simp [came]
  obtain ⟨A1, c1, hv⟩ : ∃ A1 c1, v = .slice A1 l.length c1 := by
    obtain ⟨_, inner, ho, _⟩ := hR
    rw [hcl] at ho
    rcases ho.2 with ⟨e, h0⟩ | ⟨g, cap, cur, e, _⟩
    · exact ⟨none, 0, by rw [e, h0]⟩
    · exact ⟨_, _, e⟩
  subst hv
  have HR : Aside0 (Kd.R (kB w) 24 w1 w.heap.size (fun _ => True) (.slice A1 l.length c1) (half l 0)) := ⟨by simpa [half] using hR⟩
  have HB := Aside0.mk hb
  clear hR hb hcl
  go_wp2_with fail
  go_loopw [9] (fun p wr => ∃ j : Nat, p = .int .i64 (j : Int) ∧ j ≤ l.length ∧ Aside0 (Kd.R (kB w) 24 wr w.heap.size (fun _ => True) (.slice A1 l.length c1) (half l j)) ∧ Aside0 (Below w.heap.size w wr))
    (fun p wr => l.length - (intOf p).toNat)
  case atStart => exact ⟨0, rfl, Nat.zero_le _, HR, HB⟩
  case round =>
    clear HR HB
    obtain ⟨j, rfl, hjl, HR, HB⟩ := hrel
    by_cases hlt : j < l.length
    · have hlt1 : (j : Int) < (l.length : Int) := by omega
      have hge : (0 : Int) ≤ (j : Int) := by omega
      obtain ⟨hn1, hn2, hC1⟩ := Kd.R_reads' HR.out
      have hA : ∃ g, A1 = some ⟨g, 0, none⟩ := by
        obtain ⟨_, inner, ho, _⟩ := HR.out
        rcases ho.2 with ⟨e, h0⟩ | ⟨g, cap, cur, e, _⟩
        · rw [half_length l j hjl] at h0; omega
        · injection e with e1; exact ⟨g, e1⟩
      obtain ⟨g, rfl⟩ := hA
      obtain ⟨ad, cs, e0, hcs, hK, hcell0⟩ := Kd.C_get hC1 (z24, false) (j : Int) (by omega) (by omega)
      cases e0
      have hget : (half l j).getD (j : Int).toNat (z24, false) = (l[j], false) := by rw [Int.toNat_natCast, List.getD_eq_getElem?_getD, half_get hlt]; rfl
      rw [hget] at hK
      have hK' : k24.K w l[j] cs := by rcases hK with h | h; cases h.1; exact h.2
      obtain ⟨A4, c4, rfl, hl4, hC4⟩ := k24_open hK'
      have hcell : ∀ i u, [Value.int .i64 l[j].f0, .string l[j].f1, .int .i64 l[j].f2, .int .i64 l[j].f3, .slice A4 l[j].f4.length c4][i]? = some u → wr.cell? ⟨g, j * 5 + i, none⟩ = some u := fun i u hu => by
        have := hcell0 i u hu
        have e : (⟨g, 0, none⟩ : Addr).add ((j : Int).toNat * (kB w).sz + i) = ⟨g, j * 5 + i, none⟩ := by
          rw [Int.toNat_natCast]; simp [Addr.add, kB]; try (intros; omega)
        rwa [e] at this
      have hcK := hcell 4 _ rfl
      have HCE := Aside0.mk hcell
      have HL4 := Aside0.mk hl4
      have HX := Aside0.mk (HK.out j hlt A4 c4 wr (Kd.C_below hC4 HB.out) hl4)
      have HC4 := Aside0.mk hC4
      clear hcell0 hcell hK hK' hcs hget hl4 hC4 hC1 hn1 hn2
      obtain ⟨cur, hcur⟩ : ∃ cur, wr.heap[g]? = some (.cells cur 24 (0, 0)) := by
        obtain ⟨_, inner, ho, _⟩ := HR.out
        rcases ho.2 with ⟨e, _⟩ | ⟨g', cap, cur, e, _, h1, _⟩
        · cases e
        · injection e with e1; cases e1; exact ⟨cur, h1⟩
      have HCU := Aside0.mk hcur
      clear hcur
      go_wp2_with fail
      refine HX.out.mono ?_
      clear HX
      rintro e w2 ⟨v1, rfl, hv1, hb1⟩
      obtain ⟨A5, c5, hv5⟩ := R_form hv1
      subst hv5
      have hcK2 := (hb1.cell (World.block_lt_of_cell? wr _ hcK)).trans hcK
      have hfr2 := blk_frozen (blk_below HCU.out hb1) (j * 5 + 4)
      have HV1 := Aside0.mk hv1
      have HB1 := Aside0.mk hb1
      clear hv1 hb1 hcK
      go_wp2_with fail
      have hgl : g < wr.heap.size := blk_lt HCU.out
      have hseg := Kd.R_seg (Kd.R_below HR.out HB1.out) (j : Int) (by omega) hlt1 (c := [Value.int .i64 l[j].f0, .string l[j].f1, .int .i64 l[j].f2, .int .i64 l[j].f3, .slice A4 l[j].f4.length c4]) (seg := [.slice A5 l[j].f4.length c5]) (j := 4) (x' := (l[j], true)) (okp := fun k => k ≠ g) rfl
        (fun i u hu => by rw [Int.toNat_natCast]; exact (HB1.out.cell (World.block_lt_of_cell? wr _ (HCE.out i u hu))).trans (HCE.out i u hu)) (show 4 + 1 ≤ 5 by decide)
        (.inl ⟨rfl, k24_mkM w2 w.heap.size (fun k => k ≠ g) l[j] (Kd.R_lower (Kd.R_mono (Kd.R_bound HV1.out) (fun k hk => by have := hk.2.1; omega)) HB.out.size)⟩) (fun k hk => ⟨trivial, hk⟩)
      go_roundw
      case rel =>
        refine ⟨j + 1, by rw [wrap_ok_ (by omega) (by have := HN.out; omega)]; rfl, hlt, ⟨?_⟩, ⟨?_⟩⟩
        · have h1 := hseg.1
          rw [Int.toNat_natCast, half_set hlt] at h1
          exact h1
        · exact below_set (HB.out.trans (HB1.out.mono HB.out.size)) (by
            obtain ⟨_, inner, ho, _⟩ := HR.out
            rcases ho.2 with ⟨e, _⟩ | ⟨g', cap, cur, e, h0, _⟩
            · cases e
            · injection e with e1; cases e1; exact h0)
      case measure => rw [wrap_ok_ (by omega) (by have := HN.out; omega)]; show l.length - ((j : Int) + 1).toNat < l.length - (j : Int).toNat; omega
    · have hje : j = l.length := by omega
      have hlt' : ¬ ((j : Int) < (l.length : Int)) := by omega
      go_wp2_with fail
      go_ret
      refine ⟨_, rfl, ?_, HB.out⟩
      have h1 := HR.out
      rw [hje] at h1
      have e : half l l.length = l.map fun x => (x, true) := by simp [half, came]
      rw [e] at h1
      exact kB_made h1
end Go.Proofs.Ytbheobngeocdfaa.PAll
