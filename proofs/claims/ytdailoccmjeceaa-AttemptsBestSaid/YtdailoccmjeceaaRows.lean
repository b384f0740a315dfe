/-
  No cell of these rows narrows 'for every input' (looked for: loops, veiled, ifaces, maps, wideKeys, modest, calm, conditions, laid).
  DERIVED. THE GIVEN ROWS OF THIS SEAT. 7 by the template 'for every input the law returns true; each argument reads behind the call as it read before'; 0 by the template 'total and deterministic' (their statements: YtdailoccmjeceaaTotals.lean).
  GIVEN WITH THE SEED: the statements are not yours to turn. If you find one false, say at which input.
  Laid BY PROGRAM, IN A SANDBOX (cutbox-rows.mjs): the forced cells as the released guide's own fill.sh prints them over the translation 72937aac7da755ad… (all of the seat's roots in one cut). By AI agents, Wed Nov 11 2026. No macro, syntax, notation, axiom, sorry.
-/
import Derived.Test.YtdailoccmjeceaaChecked
import GoSem.Claim
import GoSem.ClaimJoined
import GoSem.ClaimMapViews
import Derived.JoinedTies
import Derived.KernelRfl
namespace Go.Proofs.Ytdailoccmjeceaa
/- THE CELL 'sum', in the pinned program and in every row, IS THE sha256 OF THE DUMP (.gsa) THAT YtdailoccmjeceaaProg.lean LOADS. Nothing in Lean hashes anything: it is a label: what it is worth is what the hold of that sum in a sandbox is worth. -/
noncomputable def Try.pinned : Pinned := { name := "ytdailoccmjeceaa", sum := "72937aac7da755ad8ad43f0301fdbc3be723a39b6ff8b3049fa6072b743c4afd", checked := Try.checked }
namespace Rows
def none {H : Type} : Left H := { results := [], args := [] }

/-- 'assessorlaw52.AttemptsFinals': WHATEVER THE INPUT: true; the input reads as it did. -/
def attemptsFinalsSpec : ChangeSpec := { name := "attemptsFinals", fn := fun _ => fun
  | [d1, d2, d3] => { results := [.lit (.bool true)], args := [d1, d2, d3] }
  | _ => none }
def attemptsFinalsRow : OpenClaim := { program := "ytdailoccmjeceaa", sum := "72937aac7da755ad8ad43f0301fdbc3be723a39b6ff8b3049fa6072b743c4afd", func := "assessor/assessorlaw52.AttemptsFinals", spec := "attemptsFinals", unfollowed := true, recurses := true, apart := false }
def AttemptsFinalsSaid : Prop := attemptsFinalsRow.holds Try.pinned (OpenSpec.ofChange attemptsFinalsSpec)

/-- ITS FALSE NEIGHBOUR: 'it returns false'. Refute it at one input. -/
def attemptsFinalsWrong : ChangeSpec := { name := "attemptsFinals", fn := fun _ => fun
  | [d1, d2, d3] => { results := [.lit (.bool false)], args := [d1, d2, d3] }
  | _ => none }
def AttemptsFinalsWrongFalsely : Prop := attemptsFinalsRow.holds Try.pinned (OpenSpec.ofChange attemptsFinalsWrong)

/-- 'assessorlaw52.AttemptsRise': WHATEVER THE INPUT: true; the input reads as it did. -/
def attemptsRiseSpec : ChangeSpec := { name := "attemptsRise", fn := fun _ => fun
  | [d1, d2, d3, d4] => { results := [.lit (.bool true)], args := [d1, d2, d3, d4] }
  | _ => none }
def attemptsRiseRow : OpenClaim := { program := "ytdailoccmjeceaa", sum := "72937aac7da755ad8ad43f0301fdbc3be723a39b6ff8b3049fa6072b743c4afd", func := "assessor/assessorlaw52.AttemptsRise", spec := "attemptsRise", unfollowed := true, recurses := true, apart := false }
def AttemptsRiseSaid : Prop := attemptsRiseRow.holds Try.pinned (OpenSpec.ofChange attemptsRiseSpec)

/-- ITS FALSE NEIGHBOUR: 'it returns false'. Refute it at one input. -/
def attemptsRiseWrong : ChangeSpec := { name := "attemptsRise", fn := fun _ => fun
  | [d1, d2, d3, d4] => { results := [.lit (.bool false)], args := [d1, d2, d3, d4] }
  | _ => none }
def AttemptsRiseWrongFalsely : Prop := attemptsRiseRow.holds Try.pinned (OpenSpec.ofChange attemptsRiseWrong)

/-- 'assessorlaw52.AttemptsNeeded': WHATEVER THE INPUT: true; the input reads as it did. -/
def attemptsNeededSpec : ChangeSpec := { name := "attemptsNeeded", fn := fun _ => fun
  | [d1, d2, d3] => { results := [.lit (.bool true)], args := [d1, d2, d3] }
  | _ => none }
def attemptsNeededRow : OpenClaim := { program := "ytdailoccmjeceaa", sum := "72937aac7da755ad8ad43f0301fdbc3be723a39b6ff8b3049fa6072b743c4afd", func := "assessor/assessorlaw52.AttemptsNeeded", spec := "attemptsNeeded", unfollowed := true, recurses := true, apart := false }
def AttemptsNeededSaid : Prop := attemptsNeededRow.holds Try.pinned (OpenSpec.ofChange attemptsNeededSpec)

/-- ITS FALSE NEIGHBOUR: 'it returns false'. Refute it at one input. -/
def attemptsNeededWrong : ChangeSpec := { name := "attemptsNeeded", fn := fun _ => fun
  | [d1, d2, d3] => { results := [.lit (.bool false)], args := [d1, d2, d3] }
  | _ => none }
def AttemptsNeededWrongFalsely : Prop := attemptsNeededRow.holds Try.pinned (OpenSpec.ofChange attemptsNeededWrong)

/-- 'assessorlaw52.AttemptsBest': WHATEVER THE INPUT: true; the input reads as it did. -/
def attemptsBestSpec : ChangeSpec := { name := "attemptsBest", fn := fun _ => fun
  | [d1, d2, d3, d4, d5] => { results := [.lit (.bool true)], args := [d1, d2, d3, d4, d5] }
  | _ => none }
def attemptsBestRow : OpenClaim := { program := "ytdailoccmjeceaa", sum := "72937aac7da755ad8ad43f0301fdbc3be723a39b6ff8b3049fa6072b743c4afd", func := "assessor/assessorlaw52.AttemptsBest", spec := "attemptsBest", unfollowed := true, recurses := true, apart := false }
def AttemptsBestSaid : Prop := attemptsBestRow.holds Try.pinned (OpenSpec.ofChange attemptsBestSpec)

/-- ITS FALSE NEIGHBOUR: 'it returns false'. Refute it at one input. -/
def attemptsBestWrong : ChangeSpec := { name := "attemptsBest", fn := fun _ => fun
  | [d1, d2, d3, d4, d5] => { results := [.lit (.bool false)], args := [d1, d2, d3, d4, d5] }
  | _ => none }
def AttemptsBestWrongFalsely : Prop := attemptsBestRow.holds Try.pinned (OpenSpec.ofChange attemptsBestWrong)

/-- 'assessorlaw52.AttemptsWithin': WHATEVER THE INPUT: true; the input reads as it did. -/
def attemptsWithinSpec : ChangeSpec := { name := "attemptsWithin", fn := fun _ => fun
  | [d1, d2] => { results := [.lit (.bool true)], args := [d1, d2] }
  | _ => none }
def attemptsWithinRow : OpenClaim := { program := "ytdailoccmjeceaa", sum := "72937aac7da755ad8ad43f0301fdbc3be723a39b6ff8b3049fa6072b743c4afd", func := "assessor/assessorlaw52.AttemptsWithin", spec := "attemptsWithin", unfollowed := true, recurses := true, apart := false }
def AttemptsWithinSaid : Prop := attemptsWithinRow.holds Try.pinned (OpenSpec.ofChange attemptsWithinSpec)

/-- ITS FALSE NEIGHBOUR: 'it returns false'. Refute it at one input. -/
def attemptsWithinWrong : ChangeSpec := { name := "attemptsWithin", fn := fun _ => fun
  | [d1, d2] => { results := [.lit (.bool false)], args := [d1, d2] }
  | _ => none }
def AttemptsWithinWrongFalsely : Prop := attemptsWithinRow.holds Try.pinned (OpenSpec.ofChange attemptsWithinWrong)

/-- 'assessorlaw52.AttemptsAllowed': WHATEVER THE INPUT: true; the input reads as it did. -/
def attemptsAllowedSpec : ChangeSpec := { name := "attemptsAllowed", fn := fun _ => fun
  | [d1, d2, d3] => { results := [.lit (.bool true)], args := [d1, d2, d3] }
  | _ => none }
def attemptsAllowedRow : OpenClaim := { program := "ytdailoccmjeceaa", sum := "72937aac7da755ad8ad43f0301fdbc3be723a39b6ff8b3049fa6072b743c4afd", func := "assessor/assessorlaw52.AttemptsAllowed", spec := "attemptsAllowed", unfollowed := true, recurses := true, apart := false }
def AttemptsAllowedSaid : Prop := attemptsAllowedRow.holds Try.pinned (OpenSpec.ofChange attemptsAllowedSpec)

/-- ITS FALSE NEIGHBOUR: 'it returns false'. Refute it at one input. -/
def attemptsAllowedWrong : ChangeSpec := { name := "attemptsAllowed", fn := fun _ => fun
  | [d1, d2, d3] => { results := [.lit (.bool false)], args := [d1, d2, d3] }
  | _ => none }
def AttemptsAllowedWrongFalsely : Prop := attemptsAllowedRow.holds Try.pinned (OpenSpec.ofChange attemptsAllowedWrong)

/-- 'assessorlaw52.AttemptsEarliest': WHATEVER THE INPUT: true; the input reads as it did. -/
def attemptsEarliestSpec : ChangeSpec := { name := "attemptsEarliest", fn := fun _ => fun
  | [d1, d2, d3] => { results := [.lit (.bool true)], args := [d1, d2, d3] }
  | _ => none }
def attemptsEarliestRow : OpenClaim := { program := "ytdailoccmjeceaa", sum := "72937aac7da755ad8ad43f0301fdbc3be723a39b6ff8b3049fa6072b743c4afd", func := "assessor/assessorlaw52.AttemptsEarliest", spec := "attemptsEarliest", unfollowed := true, recurses := true, apart := false }
def AttemptsEarliestSaid : Prop := attemptsEarliestRow.holds Try.pinned (OpenSpec.ofChange attemptsEarliestSpec)

/-- ITS FALSE NEIGHBOUR: 'it returns false'. Refute it at one input. -/
def attemptsEarliestWrong : ChangeSpec := { name := "attemptsEarliest", fn := fun _ => fun
  | [d1, d2, d3] => { results := [.lit (.bool false)], args := [d1, d2, d3] }
  | _ => none }
def AttemptsEarliestWrongFalsely : Prop := attemptsEarliestRow.holds Try.pinned (OpenSpec.ofChange attemptsEarliestWrong)

/- THE SECOND FORM. 'bulk': how many values and letters a reading holds, each counted each time it is reached (what is shared counts as often as it is met; a slice's spare places count too). A statement '..UptoSaid' is the law's where the arguments, and the package variables that the reading takes, are together of bulk at most 1048576: NARROWER than '..Said'. Prove '..Said' where nothing that the law and all that it calls make is longer than what came in: it says more and counts as full. Else prove '..UptoSaid'. A law counts once. -/
mutual
def uptoBulk {H : Type} : DataW H → Nat
  | .lit (.string bytes) => bytes.length + 1
  | .lit _ => 1
  | .nil => 1
  | .ptr d => uptoBulk d + 1
  | .slice elems spare => uptoBulkAll elems + uptoBulkAll spare + 1
  | .agg parts => uptoBulkAll parts + 1
  | .iface _ d => uptoBulk d + 1
  | .map entries => uptoBulkEntries entries + 1
  | .held _ => 1
def uptoBulkAll {H : Type} : List (DataW H) → Nat
  | [] => 0
  | d :: r => uptoBulk d + uptoBulkAll r
def uptoBulkEntries {H : Type} : List (Lit × DataW H) → Nat
  | [] => 0
  | x :: r => uptoBulkEntry x + uptoBulkEntries r
def uptoBulkEntry {H : Type} : Lit × DataW H → Nat
  | (.string bytes, d) => bytes.length + uptoBulk d + 1
  | (_, d) => uptoBulk d + 1
 end
def uptoSmall : (H : Type) → List (DataW H) → Bool := fun _ ds => decide (uptoBulkAll ds ≤ 1048576)
def OpenSpec.upto (s : _root_.Go.ChangeSpec) : _root_.Go.OpenSpec := { _root_.Go.OpenSpec.ofChange s with cond := some uptoSmall }

/-- 'assessorlaw52.AttemptsFinals', WHERE WHAT IT READS IS OF BULK AT MOST 1048576: true; the input reads as it did. -/
def attemptsFinalsUptoRow : OpenClaim := { program := "ytdailoccmjeceaa", sum := "72937aac7da755ad8ad43f0301fdbc3be723a39b6ff8b3049fa6072b743c4afd", func := "assessor/assessorlaw52.AttemptsFinals", spec := "attemptsFinals", unfollowed := true, recurses := true, apart := false, narrowed := true }
def AttemptsFinalsUptoSaid : Prop := attemptsFinalsUptoRow.holds Try.pinned (OpenSpec.upto attemptsFinalsSpec)

/-- 'assessorlaw52.AttemptsRise', WHERE WHAT IT READS IS OF BULK AT MOST 1048576: true; the input reads as it did. -/
def attemptsRiseUptoRow : OpenClaim := { program := "ytdailoccmjeceaa", sum := "72937aac7da755ad8ad43f0301fdbc3be723a39b6ff8b3049fa6072b743c4afd", func := "assessor/assessorlaw52.AttemptsRise", spec := "attemptsRise", unfollowed := true, recurses := true, apart := false, narrowed := true }
def AttemptsRiseUptoSaid : Prop := attemptsRiseUptoRow.holds Try.pinned (OpenSpec.upto attemptsRiseSpec)

/-- 'assessorlaw52.AttemptsNeeded', WHERE WHAT IT READS IS OF BULK AT MOST 1048576: true; the input reads as it did. -/
def attemptsNeededUptoRow : OpenClaim := { program := "ytdailoccmjeceaa", sum := "72937aac7da755ad8ad43f0301fdbc3be723a39b6ff8b3049fa6072b743c4afd", func := "assessor/assessorlaw52.AttemptsNeeded", spec := "attemptsNeeded", unfollowed := true, recurses := true, apart := false, narrowed := true }
def AttemptsNeededUptoSaid : Prop := attemptsNeededUptoRow.holds Try.pinned (OpenSpec.upto attemptsNeededSpec)

/-- 'assessorlaw52.AttemptsBest', WHERE WHAT IT READS IS OF BULK AT MOST 1048576: true; the input reads as it did. -/
def attemptsBestUptoRow : OpenClaim := { program := "ytdailoccmjeceaa", sum := "72937aac7da755ad8ad43f0301fdbc3be723a39b6ff8b3049fa6072b743c4afd", func := "assessor/assessorlaw52.AttemptsBest", spec := "attemptsBest", unfollowed := true, recurses := true, apart := false, narrowed := true }
def AttemptsBestUptoSaid : Prop := attemptsBestUptoRow.holds Try.pinned (OpenSpec.upto attemptsBestSpec)

/-- 'assessorlaw52.AttemptsWithin', WHERE WHAT IT READS IS OF BULK AT MOST 1048576: true; the input reads as it did. -/
def attemptsWithinUptoRow : OpenClaim := { program := "ytdailoccmjeceaa", sum := "72937aac7da755ad8ad43f0301fdbc3be723a39b6ff8b3049fa6072b743c4afd", func := "assessor/assessorlaw52.AttemptsWithin", spec := "attemptsWithin", unfollowed := true, recurses := true, apart := false, narrowed := true }
def AttemptsWithinUptoSaid : Prop := attemptsWithinUptoRow.holds Try.pinned (OpenSpec.upto attemptsWithinSpec)

/-- 'assessorlaw52.AttemptsAllowed', WHERE WHAT IT READS IS OF BULK AT MOST 1048576: true; the input reads as it did. -/
def attemptsAllowedUptoRow : OpenClaim := { program := "ytdailoccmjeceaa", sum := "72937aac7da755ad8ad43f0301fdbc3be723a39b6ff8b3049fa6072b743c4afd", func := "assessor/assessorlaw52.AttemptsAllowed", spec := "attemptsAllowed", unfollowed := true, recurses := true, apart := false, narrowed := true }
def AttemptsAllowedUptoSaid : Prop := attemptsAllowedUptoRow.holds Try.pinned (OpenSpec.upto attemptsAllowedSpec)

/-- 'assessorlaw52.AttemptsEarliest', WHERE WHAT IT READS IS OF BULK AT MOST 1048576: true; the input reads as it did. -/
def attemptsEarliestUptoRow : OpenClaim := { program := "ytdailoccmjeceaa", sum := "72937aac7da755ad8ad43f0301fdbc3be723a39b6ff8b3049fa6072b743c4afd", func := "assessor/assessorlaw52.AttemptsEarliest", spec := "attemptsEarliest", unfollowed := true, recurses := true, apart := false, narrowed := true }
def AttemptsEarliestUptoSaid : Prop := attemptsEarliestUptoRow.holds Try.pinned (OpenSpec.upto attemptsEarliestSpec)

end Rows
end Go.Proofs.Ytdailoccmjeceaa
