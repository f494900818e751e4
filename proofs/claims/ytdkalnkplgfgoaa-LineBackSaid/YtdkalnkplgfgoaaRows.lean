/-
  No cell of these rows narrows 'for every input' (looked for: loops, veiled, ifaces, maps, wideKeys, modest, calm, conditions, laid).
  DERIVED. THE GIVEN ROWS OF THIS SEAT. 11 by the template 'for every input the law returns true; each argument reads behind the call as it read before'; 0 by the template 'total and deterministic' (their statements: YtdkalnkplgfgoaaTotals.lean).
  GIVEN WITH THE SEED: the statements are not yours to turn. If you find one false, say at which input.
  Laid BY PROGRAM, IN A SANDBOX (cutbox-rows.mjs): the forced cells as the released guide's own fill.sh prints them over the translation e8fc103a41e78dba… (all of the seat's roots in one cut). By AI agents, Wed Nov 11 2026. No macro, syntax, notation, axiom, sorry.
-/
import Derived.Test.YtdkalnkplgfgoaaChecked
import GoSem.Claim
import GoSem.ClaimJoined
import GoSem.ClaimMapViews
import Derived.JoinedTies
import Derived.KernelRfl
namespace Go.Proofs.Ytdkalnkplgfgoaa
/- THE CELL 'sum', in the pinned program and in every row, IS THE sha256 OF THE DUMP (.gsa) THAT YtdkalnkplgfgoaaProg.lean LOADS. Nothing in Lean hashes anything: it is a label: what it is worth is what the hold of that sum in a sandbox is worth. -/
noncomputable def Try.pinned : Pinned := { name := "ytdkalnkplgfgoaa", sum := "e8fc103a41e78dbab4c928e1b73a72884ba764417534d8d8832fc30c45fc1045", checked := Try.checked }
namespace Rows
def none {H : Type} : Left H := { results := [], args := [] }

/-- 'riddlelaw18.LinePrograms': WHATEVER THE INPUT: true; the input reads as it did. -/
def lineProgramsSpec : ChangeSpec := { name := "linePrograms", fn := fun _ => fun
  | [d] => { results := [.lit (.bool true)], args := [d] }
  | _ => none }
def lineProgramsRow : OpenClaim := { program := "ytdkalnkplgfgoaa", sum := "e8fc103a41e78dbab4c928e1b73a72884ba764417534d8d8832fc30c45fc1045", func := "riddle/riddlelaw18.LinePrograms", spec := "linePrograms", apart := false }
def LineProgramsSaid : Prop := lineProgramsRow.holds Try.pinned (OpenSpec.ofChange lineProgramsSpec)

/-- ITS FALSE NEIGHBOUR: 'it returns false'. Refute it at one input. -/
def lineProgramsWrong : ChangeSpec := { name := "linePrograms", fn := fun _ => fun
  | [d] => { results := [.lit (.bool false)], args := [d] }
  | _ => none }
def LineProgramsWrongFalsely : Prop := lineProgramsRow.holds Try.pinned (OpenSpec.ofChange lineProgramsWrong)

/-- 'riddlelaw18.LineRuns': WHATEVER THE INPUT: true; the input reads as it did. -/
def lineRunsSpec : ChangeSpec := { name := "lineRuns", fn := fun _ => fun
  | [d1, d2] => { results := [.lit (.bool true)], args := [d1, d2] }
  | _ => none }
def lineRunsRow : OpenClaim := { program := "ytdkalnkplgfgoaa", sum := "e8fc103a41e78dbab4c928e1b73a72884ba764417534d8d8832fc30c45fc1045", func := "riddle/riddlelaw18.LineRuns", spec := "lineRuns", apart := false }
def LineRunsSaid : Prop := lineRunsRow.holds Try.pinned (OpenSpec.ofChange lineRunsSpec)

/-- ITS FALSE NEIGHBOUR: 'it returns false'. Refute it at one input. -/
def lineRunsWrong : ChangeSpec := { name := "lineRuns", fn := fun _ => fun
  | [d1, d2] => { results := [.lit (.bool false)], args := [d1, d2] }
  | _ => none }
def LineRunsWrongFalsely : Prop := lineRunsRow.holds Try.pinned (OpenSpec.ofChange lineRunsWrong)

/-- 'riddlelaw18.LineFar': WHATEVER THE INPUT: true; the input reads as it did. -/
def lineFarSpec : ChangeSpec := { name := "lineFar", fn := fun _ => fun
  | [d1, d2, d3, d4] => { results := [.lit (.bool true)], args := [d1, d2, d3, d4] }
  | _ => none }
def lineFarRow : OpenClaim := { program := "ytdkalnkplgfgoaa", sum := "e8fc103a41e78dbab4c928e1b73a72884ba764417534d8d8832fc30c45fc1045", func := "riddle/riddlelaw18.LineFar", spec := "lineFar", apart := false }
def LineFarSaid : Prop := lineFarRow.holds Try.pinned (OpenSpec.ofChange lineFarSpec)

/-- ITS FALSE NEIGHBOUR: 'it returns false'. Refute it at one input. -/
def lineFarWrong : ChangeSpec := { name := "lineFar", fn := fun _ => fun
  | [d1, d2, d3, d4] => { results := [.lit (.bool false)], args := [d1, d2, d3, d4] }
  | _ => none }
def LineFarWrongFalsely : Prop := lineFarRow.holds Try.pinned (OpenSpec.ofChange lineFarWrong)

/-- 'riddlelaw18.LineLadder': WHATEVER THE INPUT: true; the input reads as it did. -/
def lineLadderSpec : ChangeSpec := { name := "lineLadder", fn := fun _ => fun
  | [d1, d2, d3] => { results := [.lit (.bool true)], args := [d1, d2, d3] }
  | _ => none }
def lineLadderRow : OpenClaim := { program := "ytdkalnkplgfgoaa", sum := "e8fc103a41e78dbab4c928e1b73a72884ba764417534d8d8832fc30c45fc1045", func := "riddle/riddlelaw18.LineLadder", spec := "lineLadder", apart := false }
def LineLadderSaid : Prop := lineLadderRow.holds Try.pinned (OpenSpec.ofChange lineLadderSpec)

/-- ITS FALSE NEIGHBOUR: 'it returns false'. Refute it at one input. -/
def lineLadderWrong : ChangeSpec := { name := "lineLadder", fn := fun _ => fun
  | [d1, d2, d3] => { results := [.lit (.bool false)], args := [d1, d2, d3] }
  | _ => none }
def LineLadderWrongFalsely : Prop := lineLadderRow.holds Try.pinned (OpenSpec.ofChange lineLadderWrong)

/-- 'riddlelaw17.OptGraphs': WHATEVER THE INPUT: true; the input reads as it did. -/
def optGraphsSpec : ChangeSpec := { name := "optGraphs", fn := fun _ => fun
  | [d] => { results := [.lit (.bool true)], args := [d] }
  | _ => none }
def optGraphsRow : OpenClaim := { program := "ytdkalnkplgfgoaa", sum := "e8fc103a41e78dbab4c928e1b73a72884ba764417534d8d8832fc30c45fc1045", func := "riddle/riddlelaw17.OptGraphs", spec := "optGraphs", unfollowed := true, recurses := true, apart := false }
def OptGraphsSaid : Prop := optGraphsRow.holds Try.pinned (OpenSpec.ofChange optGraphsSpec)

/-- ITS FALSE NEIGHBOUR: 'it returns false'. Refute it at one input. -/
def optGraphsWrong : ChangeSpec := { name := "optGraphs", fn := fun _ => fun
  | [d] => { results := [.lit (.bool false)], args := [d] }
  | _ => none }
def OptGraphsWrongFalsely : Prop := optGraphsRow.holds Try.pinned (OpenSpec.ofChange optGraphsWrong)

/-- 'riddlelaw17.OptRuns': WHATEVER THE INPUT: true; the input reads as it did. -/
def optRunsSpec : ChangeSpec := { name := "optRuns", fn := fun _ => fun
  | [d1, d2] => { results := [.lit (.bool true)], args := [d1, d2] }
  | _ => none }
def optRunsRow : OpenClaim := { program := "ytdkalnkplgfgoaa", sum := "e8fc103a41e78dbab4c928e1b73a72884ba764417534d8d8832fc30c45fc1045", func := "riddle/riddlelaw17.OptRuns", spec := "optRuns", unfollowed := true, recurses := true, apart := false }
def OptRunsSaid : Prop := optRunsRow.holds Try.pinned (OpenSpec.ofChange optRunsSpec)

/-- ITS FALSE NEIGHBOUR: 'it returns false'. Refute it at one input. -/
def optRunsWrong : ChangeSpec := { name := "optRuns", fn := fun _ => fun
  | [d1, d2] => { results := [.lit (.bool false)], args := [d1, d2] }
  | _ => none }
def OptRunsWrongFalsely : Prop := optRunsRow.holds Try.pinned (OpenSpec.ofChange optRunsWrong)

/-- 'riddlelaw17.OptCuts': WHATEVER THE INPUT: true; the input reads as it did. -/
def optCutsSpec : ChangeSpec := { name := "optCuts", fn := fun _ => fun
  | [d1, d2, d3] => { results := [.lit (.bool true)], args := [d1, d2, d3] }
  | _ => none }
def optCutsRow : OpenClaim := { program := "ytdkalnkplgfgoaa", sum := "e8fc103a41e78dbab4c928e1b73a72884ba764417534d8d8832fc30c45fc1045", func := "riddle/riddlelaw17.OptCuts", spec := "optCuts", unfollowed := true, recurses := true, apart := false }
def OptCutsSaid : Prop := optCutsRow.holds Try.pinned (OpenSpec.ofChange optCutsSpec)

/-- ITS FALSE NEIGHBOUR: 'it returns false'. Refute it at one input. -/
def optCutsWrong : ChangeSpec := { name := "optCuts", fn := fun _ => fun
  | [d1, d2, d3] => { results := [.lit (.bool false)], args := [d1, d2, d3] }
  | _ => none }
def OptCutsWrongFalsely : Prop := optCutsRow.holds Try.pinned (OpenSpec.ofChange optCutsWrong)

/-- 'riddlelaw17.OptPrograms': WHATEVER THE INPUT: true; the input reads as it did. -/
def optProgramsSpec : ChangeSpec := { name := "optPrograms", fn := fun _ => fun
  | [d1, d2] => { results := [.lit (.bool true)], args := [d1, d2] }
  | _ => none }
def optProgramsRow : OpenClaim := { program := "ytdkalnkplgfgoaa", sum := "e8fc103a41e78dbab4c928e1b73a72884ba764417534d8d8832fc30c45fc1045", func := "riddle/riddlelaw17.OptPrograms", spec := "optPrograms", unfollowed := true, recurses := true, apart := false }
def OptProgramsSaid : Prop := optProgramsRow.holds Try.pinned (OpenSpec.ofChange optProgramsSpec)

/-- ITS FALSE NEIGHBOUR: 'it returns false'. Refute it at one input. -/
def optProgramsWrong : ChangeSpec := { name := "optPrograms", fn := fun _ => fun
  | [d1, d2] => { results := [.lit (.bool false)], args := [d1, d2] }
  | _ => none }
def OptProgramsWrongFalsely : Prop := optProgramsRow.holds Try.pinned (OpenSpec.ofChange optProgramsWrong)

/-- 'riddlelaw17.OptPadded': WHATEVER THE INPUT: true; the input reads as it did. -/
def optPaddedSpec : ChangeSpec := { name := "optPadded", fn := fun _ => fun
  | [d1, d2, d3] => { results := [.lit (.bool true)], args := [d1, d2, d3] }
  | _ => none }
def optPaddedRow : OpenClaim := { program := "ytdkalnkplgfgoaa", sum := "e8fc103a41e78dbab4c928e1b73a72884ba764417534d8d8832fc30c45fc1045", func := "riddle/riddlelaw17.OptPadded", spec := "optPadded", unfollowed := true, recurses := true, apart := false }
def OptPaddedSaid : Prop := optPaddedRow.holds Try.pinned (OpenSpec.ofChange optPaddedSpec)

/-- ITS FALSE NEIGHBOUR: 'it returns false'. Refute it at one input. -/
def optPaddedWrong : ChangeSpec := { name := "optPadded", fn := fun _ => fun
  | [d1, d2, d3] => { results := [.lit (.bool false)], args := [d1, d2, d3] }
  | _ => none }
def OptPaddedWrongFalsely : Prop := optPaddedRow.holds Try.pinned (OpenSpec.ofChange optPaddedWrong)

/-- 'riddlelaw18.LineBack': WHATEVER THE INPUT: true; the input reads as it did. -/
def lineBackSpec : ChangeSpec := { name := "lineBack", fn := fun _ => fun
  | [d1, d2] => { results := [.lit (.bool true)], args := [d1, d2] }
  | _ => none }
def lineBackRow : OpenClaim := { program := "ytdkalnkplgfgoaa", sum := "e8fc103a41e78dbab4c928e1b73a72884ba764417534d8d8832fc30c45fc1045", func := "riddle/riddlelaw18.LineBack", spec := "lineBack", unfollowed := true, recurses := true, apart := false }
def LineBackSaid : Prop := lineBackRow.holds Try.pinned (OpenSpec.ofChange lineBackSpec)

/-- ITS FALSE NEIGHBOUR: 'it returns false'. Refute it at one input. -/
def lineBackWrong : ChangeSpec := { name := "lineBack", fn := fun _ => fun
  | [d1, d2] => { results := [.lit (.bool false)], args := [d1, d2] }
  | _ => none }
def LineBackWrongFalsely : Prop := lineBackRow.holds Try.pinned (OpenSpec.ofChange lineBackWrong)

/-- 'riddlelaw17.OptTwice': WHATEVER THE INPUT: true; the input reads as it did. -/
def optTwiceSpec : ChangeSpec := { name := "optTwice", fn := fun _ => fun
  | [d1, d2] => { results := [.lit (.bool true)], args := [d1, d2] }
  | _ => none }
def optTwiceRow : OpenClaim := { program := "ytdkalnkplgfgoaa", sum := "e8fc103a41e78dbab4c928e1b73a72884ba764417534d8d8832fc30c45fc1045", func := "riddle/riddlelaw17.OptTwice", spec := "optTwice", unfollowed := true, recurses := true, apart := false }
def OptTwiceSaid : Prop := optTwiceRow.holds Try.pinned (OpenSpec.ofChange optTwiceSpec)

/-- ITS FALSE NEIGHBOUR: 'it returns false'. Refute it at one input. -/
def optTwiceWrong : ChangeSpec := { name := "optTwice", fn := fun _ => fun
  | [d1, d2] => { results := [.lit (.bool false)], args := [d1, d2] }
  | _ => none }
def OptTwiceWrongFalsely : Prop := optTwiceRow.holds Try.pinned (OpenSpec.ofChange optTwiceWrong)

/- THE SECOND FORM. 'bulk': how many values and letters a reading holds, each counted each time it is reached (what is shared counts as often as it is met; a slice's spare places count too). A statement '..UptoSaid' is the law's where the arguments, and the package variables that the reading takes, are together of bulk at most 1048576: NARROWER than '..Said'. Prove '..Said' where nothing that the law and all that it calls make is longer than what came in: it says more and counts as full. Else prove '..UptoSaid'. A law counts once. -/
mutual
def uptoBulk {H : Type} : DataW H → Nat
  | .lit (.string bytes) => bytes.length + 1
  | .lit _ => 1
  | .nil => 1
  | .ptr d => uptoBulk d + 1
  | .slice elems spare => uptoBulkAll elems + uptoBulkAll spare + 1
  | .agg parts => uptoBulkAll parts + 1
  | .iface _ d => uptoBulk d + 1
  | .map entries => uptoBulkEntries entries + 1
  | .held _ => 1
def uptoBulkAll {H : Type} : List (DataW H) → Nat
  | [] => 0
  | d :: r => uptoBulk d + uptoBulkAll r
def uptoBulkEntries {H : Type} : List (Lit × DataW H) → Nat
  | [] => 0
  | x :: r => uptoBulkEntry x + uptoBulkEntries r
def uptoBulkEntry {H : Type} : Lit × DataW H → Nat
  | (.string bytes, d) => bytes.length + uptoBulk d + 1
  | (_, d) => uptoBulk d + 1
 end
def uptoSmall : (H : Type) → List (DataW H) → Bool := fun _ ds => decide (uptoBulkAll ds ≤ 1048576)
def OpenSpec.upto (s : _root_.Go.ChangeSpec) : _root_.Go.OpenSpec := { _root_.Go.OpenSpec.ofChange s with cond := some uptoSmall }

/-- 'riddlelaw18.LinePrograms', WHERE WHAT IT READS IS OF BULK AT MOST 1048576: true; the input reads as it did. -/
def lineProgramsUptoRow : OpenClaim := { program := "ytdkalnkplgfgoaa", sum := "e8fc103a41e78dbab4c928e1b73a72884ba764417534d8d8832fc30c45fc1045", func := "riddle/riddlelaw18.LinePrograms", spec := "linePrograms", apart := false, narrowed := true }
def LineProgramsUptoSaid : Prop := lineProgramsUptoRow.holds Try.pinned (OpenSpec.upto lineProgramsSpec)

/-- 'riddlelaw18.LineRuns', WHERE WHAT IT READS IS OF BULK AT MOST 1048576: true; the input reads as it did. -/
def lineRunsUptoRow : OpenClaim := { program := "ytdkalnkplgfgoaa", sum := "e8fc103a41e78dbab4c928e1b73a72884ba764417534d8d8832fc30c45fc1045", func := "riddle/riddlelaw18.LineRuns", spec := "lineRuns", apart := false, narrowed := true }
def LineRunsUptoSaid : Prop := lineRunsUptoRow.holds Try.pinned (OpenSpec.upto lineRunsSpec)

/-- 'riddlelaw18.LineFar', WHERE WHAT IT READS IS OF BULK AT MOST 1048576: true; the input reads as it did. -/
def lineFarUptoRow : OpenClaim := { program := "ytdkalnkplgfgoaa", sum := "e8fc103a41e78dbab4c928e1b73a72884ba764417534d8d8832fc30c45fc1045", func := "riddle/riddlelaw18.LineFar", spec := "lineFar", apart := false, narrowed := true }
def LineFarUptoSaid : Prop := lineFarUptoRow.holds Try.pinned (OpenSpec.upto lineFarSpec)

/-- 'riddlelaw18.LineLadder', WHERE WHAT IT READS IS OF BULK AT MOST 1048576: true; the input reads as it did. -/
def lineLadderUptoRow : OpenClaim := { program := "ytdkalnkplgfgoaa", sum := "e8fc103a41e78dbab4c928e1b73a72884ba764417534d8d8832fc30c45fc1045", func := "riddle/riddlelaw18.LineLadder", spec := "lineLadder", apart := false, narrowed := true }
def LineLadderUptoSaid : Prop := lineLadderUptoRow.holds Try.pinned (OpenSpec.upto lineLadderSpec)

/-- 'riddlelaw17.OptGraphs', WHERE WHAT IT READS IS OF BULK AT MOST 1048576: true; the input reads as it did. -/
def optGraphsUptoRow : OpenClaim := { program := "ytdkalnkplgfgoaa", sum := "e8fc103a41e78dbab4c928e1b73a72884ba764417534d8d8832fc30c45fc1045", func := "riddle/riddlelaw17.OptGraphs", spec := "optGraphs", unfollowed := true, recurses := true, apart := false, narrowed := true }
def OptGraphsUptoSaid : Prop := optGraphsUptoRow.holds Try.pinned (OpenSpec.upto optGraphsSpec)

/-- 'riddlelaw17.OptRuns', WHERE WHAT IT READS IS OF BULK AT MOST 1048576: true; the input reads as it did. -/
def optRunsUptoRow : OpenClaim := { program := "ytdkalnkplgfgoaa", sum := "e8fc103a41e78dbab4c928e1b73a72884ba764417534d8d8832fc30c45fc1045", func := "riddle/riddlelaw17.OptRuns", spec := "optRuns", unfollowed := true, recurses := true, apart := false, narrowed := true }
def OptRunsUptoSaid : Prop := optRunsUptoRow.holds Try.pinned (OpenSpec.upto optRunsSpec)

/-- 'riddlelaw17.OptCuts', WHERE WHAT IT READS IS OF BULK AT MOST 1048576: true; the input reads as it did. -/
def optCutsUptoRow : OpenClaim := { program := "ytdkalnkplgfgoaa", sum := "e8fc103a41e78dbab4c928e1b73a72884ba764417534d8d8832fc30c45fc1045", func := "riddle/riddlelaw17.OptCuts", spec := "optCuts", unfollowed := true, recurses := true, apart := false, narrowed := true }
def OptCutsUptoSaid : Prop := optCutsUptoRow.holds Try.pinned (OpenSpec.upto optCutsSpec)

/-- 'riddlelaw17.OptPrograms', WHERE WHAT IT READS IS OF BULK AT MOST 1048576: true; the input reads as it did. -/
def optProgramsUptoRow : OpenClaim := { program := "ytdkalnkplgfgoaa", sum := "e8fc103a41e78dbab4c928e1b73a72884ba764417534d8d8832fc30c45fc1045", func := "riddle/riddlelaw17.OptPrograms", spec := "optPrograms", unfollowed := true, recurses := true, apart := false, narrowed := true }
def OptProgramsUptoSaid : Prop := optProgramsUptoRow.holds Try.pinned (OpenSpec.upto optProgramsSpec)

/-- 'riddlelaw17.OptPadded', WHERE WHAT IT READS IS OF BULK AT MOST 1048576: true; the input reads as it did. -/
def optPaddedUptoRow : OpenClaim := { program := "ytdkalnkplgfgoaa", sum := "e8fc103a41e78dbab4c928e1b73a72884ba764417534d8d8832fc30c45fc1045", func := "riddle/riddlelaw17.OptPadded", spec := "optPadded", unfollowed := true, recurses := true, apart := false, narrowed := true }
def OptPaddedUptoSaid : Prop := optPaddedUptoRow.holds Try.pinned (OpenSpec.upto optPaddedSpec)

/-- 'riddlelaw18.LineBack', WHERE WHAT IT READS IS OF BULK AT MOST 1048576: true; the input reads as it did. -/
def lineBackUptoRow : OpenClaim := { program := "ytdkalnkplgfgoaa", sum := "e8fc103a41e78dbab4c928e1b73a72884ba764417534d8d8832fc30c45fc1045", func := "riddle/riddlelaw18.LineBack", spec := "lineBack", unfollowed := true, recurses := true, apart := false, narrowed := true }
def LineBackUptoSaid : Prop := lineBackUptoRow.holds Try.pinned (OpenSpec.upto lineBackSpec)

/-- 'riddlelaw17.OptTwice', WHERE WHAT IT READS IS OF BULK AT MOST 1048576: true; the input reads as it did. -/
def optTwiceUptoRow : OpenClaim := { program := "ytdkalnkplgfgoaa", sum := "e8fc103a41e78dbab4c928e1b73a72884ba764417534d8d8832fc30c45fc1045", func := "riddle/riddlelaw17.OptTwice", spec := "optTwice", unfollowed := true, recurses := true, apart := false, narrowed := true }
def OptTwiceUptoSaid : Prop := optTwiceUptoRow.holds Try.pinned (OpenSpec.upto optTwiceSpec)

end Rows
end Go.Proofs.Ytdkalnkplgfgoaa
