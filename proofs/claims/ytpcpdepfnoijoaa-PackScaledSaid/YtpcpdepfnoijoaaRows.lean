/-
  No cell of these rows narrows 'for every input' (looked for: loops, veiled, ifaces, maps, wideKeys, modest, calm, conditions, laid).
  DERIVED. THE GIVEN ROWS OF THIS SEAT. 7 by the template 'for every input the law returns true; each argument reads behind the call as it read before'; 0 by the template 'total and deterministic' (their statements: YtpcpdepfnoijoaaTotals.lean).
  GIVEN WITH THE SEED: the statements are not yours to turn. If you find one false, say at which input.
  Laid BY PROGRAM, IN A SANDBOX (cutbox-rows.mjs): the forced cells as the released guide's own fill.sh prints them over the translation 1053c63607076e11… (all of the seat's roots in one cut). By AI agents, Wed Nov 11 2026. No macro, syntax, notation, axiom, sorry.
-/
import Derived.Test.YtpcpdepfnoijoaaChecked
import GoSem.Claim
import GoSem.ClaimJoined
import GoSem.ClaimMapViews
import Derived.JoinedTies
import Derived.KernelRfl
namespace Go.Proofs.Ytpcpdepfnoijoaa
/- THE CELL 'sum', in the pinned program and in every row, IS THE sha256 OF THE DUMP (.gsa) THAT YtpcpdepfnoijoaaProg.lean LOADS. Nothing in Lean hashes anything: it is a label: what it is worth is what the hold of that sum in a sandbox is worth. -/
noncomputable def Try.pinned : Pinned := { name := "ytpcpdepfnoijoaa", sum := "1053c63607076e1179b1a749c5218a30f542ff16ae06c52ded3403aeac987987", checked := Try.checked }
namespace Rows
def none {H : Type} : Left H := { results := [], args := [] }

/-- 'slipsticklaw07.SimWhole': WHATEVER THE INPUT: true; the input reads as it did. -/
def simWholeSpec : ChangeSpec := { name := "simWhole", fn := fun _ => fun
  | [d1, d2, d3] => { results := [.lit (.bool true)], args := [d1, d2, d3] }
  | _ => none }
def simWholeRow : OpenClaim := { program := "ytpcpdepfnoijoaa", sum := "1053c63607076e1179b1a749c5218a30f542ff16ae06c52ded3403aeac987987", func := "slipstick/slipsticklaw07.SimWhole", spec := "simWhole", unfollowed := true, recurses := true, plainKeys := false, apart := false }
def SimWholeSaid : Prop := simWholeRow.holds Try.pinned (OpenSpec.ofChange simWholeSpec)

/-- ITS FALSE NEIGHBOUR: 'it returns false'. Refute it at one input. -/
def simWholeWrong : ChangeSpec := { name := "simWhole", fn := fun _ => fun
  | [d1, d2, d3] => { results := [.lit (.bool false)], args := [d1, d2, d3] }
  | _ => none }
def SimWholeWrongFalsely : Prop := simWholeRow.holds Try.pinned (OpenSpec.ofChange simWholeWrong)

/-- 'slipsticklaw19.PackWords': WHATEVER THE INPUT: true; the input reads as it did. -/
def packWordsSpec : ChangeSpec := { name := "packWords", fn := fun _ => fun
  | [d1, d2, d3, d4] => { results := [.lit (.bool true)], args := [d1, d2, d3, d4] }
  | _ => none }
def packWordsRow : OpenClaim := { program := "ytpcpdepfnoijoaa", sum := "1053c63607076e1179b1a749c5218a30f542ff16ae06c52ded3403aeac987987", func := "slipstick/slipsticklaw19.PackWords", spec := "packWords", unfollowed := true, recurses := true, plainKeys := false, apart := false }
def PackWordsSaid : Prop := packWordsRow.holds Try.pinned (OpenSpec.ofChange packWordsSpec)

/-- ITS FALSE NEIGHBOUR: 'it returns false'. Refute it at one input. -/
def packWordsWrong : ChangeSpec := { name := "packWords", fn := fun _ => fun
  | [d1, d2, d3, d4] => { results := [.lit (.bool false)], args := [d1, d2, d3, d4] }
  | _ => none }
def PackWordsWrongFalsely : Prop := packWordsRow.holds Try.pinned (OpenSpec.ofChange packWordsWrong)

/-- 'slipsticklaw19.PackScaled': WHATEVER THE INPUT: true; the input reads as it did. -/
def packScaledSpec : ChangeSpec := { name := "packScaled", fn := fun _ => fun
  | [d1, d2, d3, d4, d5, d6] => { results := [.lit (.bool true)], args := [d1, d2, d3, d4, d5, d6] }
  | _ => none }
def packScaledRow : OpenClaim := { program := "ytpcpdepfnoijoaa", sum := "1053c63607076e1179b1a749c5218a30f542ff16ae06c52ded3403aeac987987", func := "slipstick/slipsticklaw19.PackScaled", spec := "packScaled", unfollowed := true, recurses := true, plainKeys := false, apart := false }
def PackScaledSaid : Prop := packScaledRow.holds Try.pinned (OpenSpec.ofChange packScaledSpec)

/-- ITS FALSE NEIGHBOUR: 'it returns false'. Refute it at one input. -/
def packScaledWrong : ChangeSpec := { name := "packScaled", fn := fun _ => fun
  | [d1, d2, d3, d4, d5, d6] => { results := [.lit (.bool false)], args := [d1, d2, d3, d4, d5, d6] }
  | _ => none }
def PackScaledWrongFalsely : Prop := packScaledRow.holds Try.pinned (OpenSpec.ofChange packScaledWrong)

/-- 'slipsticklaw12.OptTells': WHATEVER THE INPUT: true; the input reads as it did. -/
def optTellsSpec : ChangeSpec := { name := "optTells", fn := fun _ => fun
  | [d1, d2] => { results := [.lit (.bool true)], args := [d1, d2] }
  | _ => none }
def optTellsRow : OpenClaim := { program := "ytpcpdepfnoijoaa", sum := "1053c63607076e1179b1a749c5218a30f542ff16ae06c52ded3403aeac987987", func := "slipstick/slipsticklaw12.OptTells", spec := "optTells", unfollowed := true, recurses := true, plainKeys := false, apart := false }
def OptTellsSaid : Prop := optTellsRow.holds Try.pinned (OpenSpec.ofChange optTellsSpec)

/-- ITS FALSE NEIGHBOUR: 'it returns false'. Refute it at one input. -/
def optTellsWrong : ChangeSpec := { name := "optTells", fn := fun _ => fun
  | [d1, d2] => { results := [.lit (.bool false)], args := [d1, d2] }
  | _ => none }
def OptTellsWrongFalsely : Prop := optTellsRow.holds Try.pinned (OpenSpec.ofChange optTellsWrong)

/-- 'slipsticklaw12.OptSame': WHATEVER THE INPUT: true; the input reads as it did. -/
def optSameSpec : ChangeSpec := { name := "optSame", fn := fun _ => fun
  | [d1, d2, d3] => { results := [.lit (.bool true)], args := [d1, d2, d3] }
  | _ => none }
def optSameRow : OpenClaim := { program := "ytpcpdepfnoijoaa", sum := "1053c63607076e1179b1a749c5218a30f542ff16ae06c52ded3403aeac987987", func := "slipstick/slipsticklaw12.OptSame", spec := "optSame", unfollowed := true, recurses := true, plainKeys := false, apart := false }
def OptSameSaid : Prop := optSameRow.holds Try.pinned (OpenSpec.ofChange optSameSpec)

/-- ITS FALSE NEIGHBOUR: 'it returns false'. Refute it at one input. -/
def optSameWrong : ChangeSpec := { name := "optSame", fn := fun _ => fun
  | [d1, d2, d3] => { results := [.lit (.bool false)], args := [d1, d2, d3] }
  | _ => none }
def OptSameWrongFalsely : Prop := optSameRow.holds Try.pinned (OpenSpec.ofChange optSameWrong)

/-- 'slipsticklaw12.OptSettles': WHATEVER THE INPUT: true; the input reads as it did. -/
def optSettlesSpec : ChangeSpec := { name := "optSettles", fn := fun _ => fun
  | [d1, d2] => { results := [.lit (.bool true)], args := [d1, d2] }
  | _ => none }
def optSettlesRow : OpenClaim := { program := "ytpcpdepfnoijoaa", sum := "1053c63607076e1179b1a749c5218a30f542ff16ae06c52ded3403aeac987987", func := "slipstick/slipsticklaw12.OptSettles", spec := "optSettles", unfollowed := true, recurses := true, plainKeys := false, apart := false }
def OptSettlesSaid : Prop := optSettlesRow.holds Try.pinned (OpenSpec.ofChange optSettlesSpec)

/-- ITS FALSE NEIGHBOUR: 'it returns false'. Refute it at one input. -/
def optSettlesWrong : ChangeSpec := { name := "optSettles", fn := fun _ => fun
  | [d1, d2] => { results := [.lit (.bool false)], args := [d1, d2] }
  | _ => none }
def OptSettlesWrongFalsely : Prop := optSettlesRow.holds Try.pinned (OpenSpec.ofChange optSettlesWrong)

/-- 'slipsticklaw12.OptSweeps': WHATEVER THE INPUT: true; the input reads as it did. -/
def optSweepsSpec : ChangeSpec := { name := "optSweeps", fn := fun _ => fun
  | [d] => { results := [.lit (.bool true)], args := [d] }
  | _ => none }
def optSweepsRow : OpenClaim := { program := "ytpcpdepfnoijoaa", sum := "1053c63607076e1179b1a749c5218a30f542ff16ae06c52ded3403aeac987987", func := "slipstick/slipsticklaw12.OptSweeps", spec := "optSweeps", unfollowed := true, recurses := true, plainKeys := false, apart := false }
def OptSweepsSaid : Prop := optSweepsRow.holds Try.pinned (OpenSpec.ofChange optSweepsSpec)

/-- ITS FALSE NEIGHBOUR: 'it returns false'. Refute it at one input. -/
def optSweepsWrong : ChangeSpec := { name := "optSweeps", fn := fun _ => fun
  | [d] => { results := [.lit (.bool false)], args := [d] }
  | _ => none }
def OptSweepsWrongFalsely : Prop := optSweepsRow.holds Try.pinned (OpenSpec.ofChange optSweepsWrong)

/- THE SECOND FORM. 'bulk': how many values and letters a reading holds, each counted each time it is reached (what is shared counts as often as it is met; a slice's spare places count too). A statement '..UptoSaid' is the law's where the arguments, and the package variables that the reading takes, are together of bulk at most 1048576: NARROWER than '..Said'. Prove '..Said' where nothing that the law and all that it calls make is longer than what came in: it says more and counts as full. Else prove '..UptoSaid'. A law counts once. -/
mutual
def uptoBulk {H : Type} : DataW H → Nat
  | .lit (.string bytes) => bytes.length + 1
  | .lit _ => 1
  | .nil => 1
  | .ptr d => uptoBulk d + 1
  | .slice elems spare => uptoBulkAll elems + uptoBulkAll spare + 1
  | .agg parts => uptoBulkAll parts + 1
  | .iface _ d => uptoBulk d + 1
  | .map entries => uptoBulkEntries entries + 1
  | .held _ => 1
def uptoBulkAll {H : Type} : List (DataW H) → Nat
  | [] => 0
  | d :: r => uptoBulk d + uptoBulkAll r
def uptoBulkEntries {H : Type} : List (Lit × DataW H) → Nat
  | [] => 0
  | x :: r => uptoBulkEntry x + uptoBulkEntries r
def uptoBulkEntry {H : Type} : Lit × DataW H → Nat
  | (.string bytes, d) => bytes.length + uptoBulk d + 1
  | (_, d) => uptoBulk d + 1
 end
def uptoSmall : (H : Type) → List (DataW H) → Bool := fun _ ds => decide (uptoBulkAll ds ≤ 1048576)
def OpenSpec.upto (s : _root_.Go.ChangeSpec) : _root_.Go.OpenSpec := { _root_.Go.OpenSpec.ofChange s with cond := some uptoSmall }

/-- 'slipsticklaw07.SimWhole', WHERE WHAT IT READS IS OF BULK AT MOST 1048576: true; the input reads as it did. -/
def simWholeUptoRow : OpenClaim := { program := "ytpcpdepfnoijoaa", sum := "1053c63607076e1179b1a749c5218a30f542ff16ae06c52ded3403aeac987987", func := "slipstick/slipsticklaw07.SimWhole", spec := "simWhole", unfollowed := true, recurses := true, plainKeys := false, apart := false, narrowed := true }
def SimWholeUptoSaid : Prop := simWholeUptoRow.holds Try.pinned (OpenSpec.upto simWholeSpec)

/-- 'slipsticklaw19.PackWords', WHERE WHAT IT READS IS OF BULK AT MOST 1048576: true; the input reads as it did. -/
def packWordsUptoRow : OpenClaim := { program := "ytpcpdepfnoijoaa", sum := "1053c63607076e1179b1a749c5218a30f542ff16ae06c52ded3403aeac987987", func := "slipstick/slipsticklaw19.PackWords", spec := "packWords", unfollowed := true, recurses := true, plainKeys := false, apart := false, narrowed := true }
def PackWordsUptoSaid : Prop := packWordsUptoRow.holds Try.pinned (OpenSpec.upto packWordsSpec)

/-- 'slipsticklaw19.PackScaled', WHERE WHAT IT READS IS OF BULK AT MOST 1048576: true; the input reads as it did. -/
def packScaledUptoRow : OpenClaim := { program := "ytpcpdepfnoijoaa", sum := "1053c63607076e1179b1a749c5218a30f542ff16ae06c52ded3403aeac987987", func := "slipstick/slipsticklaw19.PackScaled", spec := "packScaled", unfollowed := true, recurses := true, plainKeys := false, apart := false, narrowed := true }
def PackScaledUptoSaid : Prop := packScaledUptoRow.holds Try.pinned (OpenSpec.upto packScaledSpec)

/-- 'slipsticklaw12.OptTells', WHERE WHAT IT READS IS OF BULK AT MOST 1048576: true; the input reads as it did. -/
def optTellsUptoRow : OpenClaim := { program := "ytpcpdepfnoijoaa", sum := "1053c63607076e1179b1a749c5218a30f542ff16ae06c52ded3403aeac987987", func := "slipstick/slipsticklaw12.OptTells", spec := "optTells", unfollowed := true, recurses := true, plainKeys := false, apart := false, narrowed := true }
def OptTellsUptoSaid : Prop := optTellsUptoRow.holds Try.pinned (OpenSpec.upto optTellsSpec)

/-- 'slipsticklaw12.OptSame', WHERE WHAT IT READS IS OF BULK AT MOST 1048576: true; the input reads as it did. -/
def optSameUptoRow : OpenClaim := { program := "ytpcpdepfnoijoaa", sum := "1053c63607076e1179b1a749c5218a30f542ff16ae06c52ded3403aeac987987", func := "slipstick/slipsticklaw12.OptSame", spec := "optSame", unfollowed := true, recurses := true, plainKeys := false, apart := false, narrowed := true }
def OptSameUptoSaid : Prop := optSameUptoRow.holds Try.pinned (OpenSpec.upto optSameSpec)

/-- 'slipsticklaw12.OptSettles', WHERE WHAT IT READS IS OF BULK AT MOST 1048576: true; the input reads as it did. -/
def optSettlesUptoRow : OpenClaim := { program := "ytpcpdepfnoijoaa", sum := "1053c63607076e1179b1a749c5218a30f542ff16ae06c52ded3403aeac987987", func := "slipstick/slipsticklaw12.OptSettles", spec := "optSettles", unfollowed := true, recurses := true, plainKeys := false, apart := false, narrowed := true }
def OptSettlesUptoSaid : Prop := optSettlesUptoRow.holds Try.pinned (OpenSpec.upto optSettlesSpec)

/-- 'slipsticklaw12.OptSweeps', WHERE WHAT IT READS IS OF BULK AT MOST 1048576: true; the input reads as it did. -/
def optSweepsUptoRow : OpenClaim := { program := "ytpcpdepfnoijoaa", sum := "1053c63607076e1179b1a749c5218a30f542ff16ae06c52ded3403aeac987987", func := "slipstick/slipsticklaw12.OptSweeps", spec := "optSweeps", unfollowed := true, recurses := true, plainKeys := false, apart := false, narrowed := true }
def OptSweepsUptoSaid : Prop := optSweepsUptoRow.holds Try.pinned (OpenSpec.upto optSweepsSpec)

end Rows
end Go.Proofs.Ytpcpdepfnoijoaa
