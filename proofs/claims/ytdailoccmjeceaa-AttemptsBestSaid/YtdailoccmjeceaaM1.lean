/- The plain words of the chapter on attempts: which rules and attempts are valid, which attempts count, their points. -/
import Derived.Test.YtdailoccmjeceaaH2
import Derived.Test.YtdailoccmjeceaaPAllxf28
namespace Go.Proofs.Ytdailoccmjeceaa.PAll
open Go.RowKit Go.Lib Go.Sort Go.Proofs.YtdailoccmjeceaaW.PrintWords Go.Proofs.YtdailoccmjeceaaW.PrintLast Go.Proofs.YtdailoccmjeceaaW.PrintMore
set_option linter.unusedVariables false
set_option linter.unusedSimpArgs false

/-- a rule's validity -/
def rightB (k m p q : Int) : Bool := decide (0 ≤ k ∧ k ≤ 2 ∧ 1 ≤ m ∧ m ≤ 16 ∧ 0 ≤ p ∧ p ≤ 1099511627776 ∧ (k = 2 → 1 ≤ q ∧ q ≤ m) ∧ (k ≠ 2 → q = 0))
/-- attempts from number i on, behind a tick -/
def okL : Int → Int → List S38 → Bool
  | _, _, [] => true
  | b, i, x :: xs => decide (x.f0 = i ∧ b ≤ x.f1 ∧ 0 ≤ x.f1 ∧ x.f1 ≤ 1099511627776 ∧ 0 ≤ x.f2 ∧ x.f2 ≤ 100000000) && okL x.f1 (i + 1) xs
def validA (k m p q : Int) (l : List S38) : Bool := rightB k m p q && decide ((l.length : Int) ≤ m) && okL 0 1 l
/-- the numbers of the attempts that count, as the program lists them -/
def countA (k m p q : Int) (l : List S38) : List Int := if validA k m p q l = true then ((chosenL k q l).map S38.f0).mergeSort (fun x y => decide (x ≤ y)) else []
/-- the points of attempts -/
def sum38 (c : List S38) : Int := (c.map S38.f2).sum
def avg (c : List S38) : Int := if c = [] then 0 else Int.tdiv (2 * sum38 c + c.length) (2 * c.length)
def pointsA (k q : Int) (l : List S38) : Int := avg (chosenL k q l)
def lastA (l : List S38) : Int := if l = [] then 0 else (l.getD (l.length - 1) z38).f1
/-- attempts with a further one -/
def furtherA (l : List S38) (n : Int) : List S38 := l ++ [⟨l.length + 1, lastA l, n⟩]
def enoughA (k q : Int) (l : List S38) (goal n : Int) : Bool := decide (goal ≤ pointsA k q (furtherA l n))
/-- the search by halves -/
def halves (e : Int → Bool) : Nat → Int → Int → Int
  | 0, lo, _ => lo
  | n + 1, lo, hi => if lo < hi then (if e ((lo + hi) / 2) = true then halves e n lo ((lo + hi) / 2) else halves e n ((lo + hi) / 2 + 1) hi) else lo
def neededA (k m p q : Int) (l : List S38) (goal : Int) : Int × Bool :=
  if validA k m p q l = true ∧ (l.length : Int) ≠ m ∧ enoughA k q l goal 100000000 = true then (halves (enoughA k q l goal) 100000001 0 100000000, true) else (0, false)
/-- the reference: how many come before one -/
def betterA (l : List S38) (i : Nat) : Nat := (List.range l.length).countP fun k => decide ((l.getD i z38).f2 < (l.getD k z38).f2 ∨ ((l.getD k z38).f2 = (l.getD i z38).f2 ∧ k < i))
def countsB (k q : Int) (l : List S38) (i : Nat) : Bool := decide ((k = 0 ∧ betterA l i = 0) ∨ (k = 1 ∧ i + 1 = l.length) ∨ (k = 2 ∧ (betterA l i : Int) < q))
def countR (k m p q : Int) (l : List S38) : List Int := if validA k m p q l = true then ((List.range l.length).filter (countsB k q l)).map (fun i => ((i + 1 : Nat) : Int)) else []

def api_Attempt.f (l0 : List S38) : Option (List S38) := if l0.length ≤ 1000 then some l0 else none
def attempts_Counting.f (a0_0 a0_1 a0_2 a0_3 : Int) (l1 : List S38) : Option (List Int) := some (countA a0_0 a0_1 a0_2 a0_3 l1)
def attempts_Needed.f (a0_0 a0_1 a0_2 a0_3 : Int) (l1 : List S38) (a2 : Int) : Option (Int × Bool) := some (neededA a0_0 a0_1 a0_2 a0_3 l1 a2)
def assessorref52_Valid.f (a0_0 a0_1 a0_2 a0_3 : Int) (l1 : List S38) : Option Bool := some (validA a0_0 a0_1 a0_2 a0_3 l1)
def assessorref52_Counting.f (a0_0 a0_1 a0_2 a0_3 : Int) (l1 : List S38) : Option (List Int) := some (countR a0_0 a0_1 a0_2 a0_3 l1)
end Go.Proofs.Ytdailoccmjeceaa.PAll
