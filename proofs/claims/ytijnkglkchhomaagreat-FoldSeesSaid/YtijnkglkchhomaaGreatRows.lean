/-
  No cell of these rows narrows 'for every input' (looked for: loops, veiled, ifaces, maps, wideKeys, modest, calm, conditions, laid).
  DERIVED. THE GIVEN ROWS OF THIS SEAT. 8 by the template 'for every input the law returns true; each argument reads behind the call as it read before'; 0 by the template 'total and deterministic' (their statements: YtijnkglkchhomaaGreatTotals.lean).
  GIVEN WITH THE SEED: the statements are not yours to turn. If you find one false, say at which input.
  Laid BY PROGRAM, IN A SANDBOX (cutbox-rows.mjs): the forced cells as the released guide's own fill.sh prints them over the translation df684a19caa380cc… (all of the seat's roots in one cut). By AI agents, Wed Nov 11 2026. No macro, syntax, notation, axiom, sorry.
-/
import Derived.Test.YtijnkglkchhomaaGreatChecked
import GoSem.Claim
import GoSem.ClaimJoined
import GoSem.ClaimMapViews
import Derived.JoinedTies
import Derived.KernelRfl
namespace Go.Proofs.YtijnkglkchhomaaGreat
/- THE CELL 'sum', in the pinned program and in every row, IS THE sha256 OF THE DUMP (.gsa) THAT YtijnkglkchhomaaGreatProg.lean LOADS. Nothing in Lean hashes anything: it is a label: what it is worth is what the hold of that sum in a sandbox is worth. -/
noncomputable def Tryz.pinned : Pinned := { name := "ytijnkglkchhomaagreat", sum := "df684a19caa380cc2203afa77d85fec8695b211880cd1316c9afbdece4d15999", checked := Tryz.checked }
namespace Rows
def none {H : Type} : Left H := { results := [], args := [] }

/-- 'afterglowlaw12.FoldAll': WHATEVER THE INPUT: true; the input reads as it did. -/
def foldAllSpec : ChangeSpec := { name := "foldAll", fn := fun _ => fun
  | [d1, d2, d3] => { results := [.lit (.bool true)], args := [d1, d2, d3] }
  | _ => none }
def foldAllRow : OpenClaim := { program := "ytijnkglkchhomaagreat", sum := "df684a19caa380cc2203afa77d85fec8695b211880cd1316c9afbdece4d15999", func := "afterglow/afterglowlaw12.FoldAll", spec := "foldAll", inPlace := ["slices.overlaps[afterglow/state.Tomb]"], unfollowed := true, recurses := true, apart := false }
def FoldAllSaid : Prop := foldAllRow.holds Tryz.pinned (OpenSpec.ofChange foldAllSpec)

/-- ITS FALSE NEIGHBOUR: 'it returns false'. Refute it at one input. -/
def foldAllWrong : ChangeSpec := { name := "foldAll", fn := fun _ => fun
  | [d1, d2, d3] => { results := [.lit (.bool false)], args := [d1, d2, d3] }
  | _ => none }
def FoldAllWrongFalsely : Prop := foldAllRow.holds Tryz.pinned (OpenSpec.ofChange foldAllWrong)

/-- 'afterglowlaw12.FoldModel': WHATEVER THE INPUT: true; the input reads as it did. -/
def foldModelSpec : ChangeSpec := { name := "foldModel", fn := fun _ => fun
  | [d1, d2, d3] => { results := [.lit (.bool true)], args := [d1, d2, d3] }
  | _ => none }
def foldModelRow : OpenClaim := { program := "ytijnkglkchhomaagreat", sum := "df684a19caa380cc2203afa77d85fec8695b211880cd1316c9afbdece4d15999", func := "afterglow/afterglowlaw12.FoldModel", spec := "foldModel", inPlace := ["slices.overlaps[afterglow/state.Tomb]"], unfollowed := true, recurses := true, apart := false }
def FoldModelSaid : Prop := foldModelRow.holds Tryz.pinned (OpenSpec.ofChange foldModelSpec)

/-- ITS FALSE NEIGHBOUR: 'it returns false'. Refute it at one input. -/
def foldModelWrong : ChangeSpec := { name := "foldModel", fn := fun _ => fun
  | [d1, d2, d3] => { results := [.lit (.bool false)], args := [d1, d2, d3] }
  | _ => none }
def FoldModelWrongFalsely : Prop := foldModelRow.holds Tryz.pinned (OpenSpec.ofChange foldModelWrong)

/-- 'afterglowlaw12.FoldNow': WHATEVER THE INPUT: true; the input reads as it did. -/
def foldNowSpec : ChangeSpec := { name := "foldNow", fn := fun _ => fun
  | [d1, d2] => { results := [.lit (.bool true)], args := [d1, d2] }
  | _ => none }
def foldNowRow : OpenClaim := { program := "ytijnkglkchhomaagreat", sum := "df684a19caa380cc2203afa77d85fec8695b211880cd1316c9afbdece4d15999", func := "afterglow/afterglowlaw12.FoldNow", spec := "foldNow", inPlace := ["slices.overlaps[afterglow/state.Tomb]"], unfollowed := true, recurses := true, apart := false }
def FoldNowSaid : Prop := foldNowRow.holds Tryz.pinned (OpenSpec.ofChange foldNowSpec)

/-- ITS FALSE NEIGHBOUR: 'it returns false'. Refute it at one input. -/
def foldNowWrong : ChangeSpec := { name := "foldNow", fn := fun _ => fun
  | [d1, d2] => { results := [.lit (.bool false)], args := [d1, d2] }
  | _ => none }
def FoldNowWrongFalsely : Prop := foldNowRow.holds Tryz.pinned (OpenSpec.ofChange foldNowWrong)

/-- 'afterglowlaw12.FoldOthers': WHATEVER THE INPUT: true; the input reads as it did. -/
def foldOthersSpec : ChangeSpec := { name := "foldOthers", fn := fun _ => fun
  | [d1, d2, d3] => { results := [.lit (.bool true)], args := [d1, d2, d3] }
  | _ => none }
def foldOthersRow : OpenClaim := { program := "ytijnkglkchhomaagreat", sum := "df684a19caa380cc2203afa77d85fec8695b211880cd1316c9afbdece4d15999", func := "afterglow/afterglowlaw12.FoldOthers", spec := "foldOthers", inPlace := ["slices.overlaps[afterglow/state.Tomb]"], unfollowed := true, recurses := true, apart := false }
def FoldOthersSaid : Prop := foldOthersRow.holds Tryz.pinned (OpenSpec.ofChange foldOthersSpec)

/-- ITS FALSE NEIGHBOUR: 'it returns false'. Refute it at one input. -/
def foldOthersWrong : ChangeSpec := { name := "foldOthers", fn := fun _ => fun
  | [d1, d2, d3] => { results := [.lit (.bool false)], args := [d1, d2, d3] }
  | _ => none }
def FoldOthersWrongFalsely : Prop := foldOthersRow.holds Tryz.pinned (OpenSpec.ofChange foldOthersWrong)

/-- 'afterglowlaw12.FoldAgain': WHATEVER THE INPUT: true; the input reads as it did. -/
def foldAgainSpec : ChangeSpec := { name := "foldAgain", fn := fun _ => fun
  | [d1, d2, d3] => { results := [.lit (.bool true)], args := [d1, d2, d3] }
  | _ => none }
def foldAgainRow : OpenClaim := { program := "ytijnkglkchhomaagreat", sum := "df684a19caa380cc2203afa77d85fec8695b211880cd1316c9afbdece4d15999", func := "afterglow/afterglowlaw12.FoldAgain", spec := "foldAgain", inPlace := ["slices.overlaps[afterglow/state.Tomb]"], unfollowed := true, recurses := true, apart := false }
def FoldAgainSaid : Prop := foldAgainRow.holds Tryz.pinned (OpenSpec.ofChange foldAgainSpec)

/-- ITS FALSE NEIGHBOUR: 'it returns false'. Refute it at one input. -/
def foldAgainWrong : ChangeSpec := { name := "foldAgain", fn := fun _ => fun
  | [d1, d2, d3] => { results := [.lit (.bool false)], args := [d1, d2, d3] }
  | _ => none }
def FoldAgainWrongFalsely : Prop := foldAgainRow.holds Tryz.pinned (OpenSpec.ofChange foldAgainWrong)

/-- 'afterglowlaw12.FoldErased': WHATEVER THE INPUT: true; the input reads as it did. -/
def foldErasedSpec : ChangeSpec := { name := "foldErased", fn := fun _ => fun
  | [d1, d2, d3] => { results := [.lit (.bool true)], args := [d1, d2, d3] }
  | _ => none }
def foldErasedRow : OpenClaim := { program := "ytijnkglkchhomaagreat", sum := "df684a19caa380cc2203afa77d85fec8695b211880cd1316c9afbdece4d15999", func := "afterglow/afterglowlaw12.FoldErased", spec := "foldErased", inPlace := ["slices.overlaps[afterglow/state.Tomb]"], unfollowed := true, recurses := true, apart := false }
def FoldErasedSaid : Prop := foldErasedRow.holds Tryz.pinned (OpenSpec.ofChange foldErasedSpec)

/-- ITS FALSE NEIGHBOUR: 'it returns false'. Refute it at one input. -/
def foldErasedWrong : ChangeSpec := { name := "foldErased", fn := fun _ => fun
  | [d1, d2, d3] => { results := [.lit (.bool false)], args := [d1, d2, d3] }
  | _ => none }
def FoldErasedWrongFalsely : Prop := foldErasedRow.holds Tryz.pinned (OpenSpec.ofChange foldErasedWrong)

/-- 'afterglowlaw12.FoldSees': WHATEVER THE INPUT: true; the input reads as it did. -/
def foldSeesSpec : ChangeSpec := { name := "foldSees", fn := fun _ => fun
  | [d1, d2, d3] => { results := [.lit (.bool true)], args := [d1, d2, d3] }
  | _ => none }
def foldSeesRow : OpenClaim := { program := "ytijnkglkchhomaagreat", sum := "df684a19caa380cc2203afa77d85fec8695b211880cd1316c9afbdece4d15999", func := "afterglow/afterglowlaw12.FoldSees", spec := "foldSees", inPlace := ["slices.overlaps[afterglow/state.Tomb]"], unfollowed := true, recurses := true, apart := false }
def FoldSeesSaid : Prop := foldSeesRow.holds Tryz.pinned (OpenSpec.ofChange foldSeesSpec)

/-- ITS FALSE NEIGHBOUR: 'it returns false'. Refute it at one input. -/
def foldSeesWrong : ChangeSpec := { name := "foldSees", fn := fun _ => fun
  | [d1, d2, d3] => { results := [.lit (.bool false)], args := [d1, d2, d3] }
  | _ => none }
def FoldSeesWrongFalsely : Prop := foldSeesRow.holds Tryz.pinned (OpenSpec.ofChange foldSeesWrong)

/-- 'afterglowlaw11.StateGrows': WHATEVER THE INPUT: true; the input reads as it did. -/
def stateGrowsSpec : ChangeSpec := { name := "stateGrows", fn := fun _ => fun
  | [d1, d2] => { results := [.lit (.bool true)], args := [d1, d2] }
  | _ => none }
def stateGrowsRow : OpenClaim := { program := "ytijnkglkchhomaagreat", sum := "df684a19caa380cc2203afa77d85fec8695b211880cd1316c9afbdece4d15999", func := "afterglow/afterglowlaw11.StateGrows", spec := "stateGrows", inPlace := ["slices.overlaps[afterglow/state.Tomb]"], unfollowed := true, recurses := true, apart := false }
def StateGrowsSaid : Prop := stateGrowsRow.holds Tryz.pinned (OpenSpec.ofChange stateGrowsSpec)

/-- ITS FALSE NEIGHBOUR: 'it returns false'. Refute it at one input. -/
def stateGrowsWrong : ChangeSpec := { name := "stateGrows", fn := fun _ => fun
  | [d1, d2] => { results := [.lit (.bool false)], args := [d1, d2] }
  | _ => none }
def StateGrowsWrongFalsely : Prop := stateGrowsRow.holds Tryz.pinned (OpenSpec.ofChange stateGrowsWrong)

/- THE SECOND FORM. 'bulk': how many values and letters a reading holds, each counted each time it is reached (what is shared counts as often as it is met; a slice's spare places count too). A statement '..UptoSaid' is the law's where the arguments, and the package variables that the reading takes, are together of bulk at most 1048576: NARROWER than '..Said'. Prove '..Said' where nothing that the law and all that it calls make is longer than what came in: it says more and counts as full. Else prove '..UptoSaid'. A law counts once. -/
mutual
def uptoBulk {H : Type} : DataW H → Nat
  | .lit (.string bytes) => bytes.length + 1
  | .lit _ => 1
  | .nil => 1
  | .ptr d => uptoBulk d + 1
  | .slice elems spare => uptoBulkAll elems + uptoBulkAll spare + 1
  | .agg parts => uptoBulkAll parts + 1
  | .iface _ d => uptoBulk d + 1
  | .map entries => uptoBulkEntries entries + 1
  | .held _ => 1
def uptoBulkAll {H : Type} : List (DataW H) → Nat
  | [] => 0
  | d :: r => uptoBulk d + uptoBulkAll r
def uptoBulkEntries {H : Type} : List (Lit × DataW H) → Nat
  | [] => 0
  | x :: r => uptoBulkEntry x + uptoBulkEntries r
def uptoBulkEntry {H : Type} : Lit × DataW H → Nat
  | (.string bytes, d) => bytes.length + uptoBulk d + 1
  | (_, d) => uptoBulk d + 1
 end
def uptoSmall : (H : Type) → List (DataW H) → Bool := fun _ ds => decide (uptoBulkAll ds ≤ 1048576)
def OpenSpec.upto (s : _root_.Go.ChangeSpec) : _root_.Go.OpenSpec := { _root_.Go.OpenSpec.ofChange s with cond := some uptoSmall }

/-- 'afterglowlaw12.FoldAll', WHERE WHAT IT READS IS OF BULK AT MOST 1048576: true; the input reads as it did. -/
def foldAllUptoRow : OpenClaim := { program := "ytijnkglkchhomaagreat", sum := "df684a19caa380cc2203afa77d85fec8695b211880cd1316c9afbdece4d15999", func := "afterglow/afterglowlaw12.FoldAll", spec := "foldAll", inPlace := ["slices.overlaps[afterglow/state.Tomb]"], unfollowed := true, recurses := true, apart := false, narrowed := true }
def FoldAllUptoSaid : Prop := foldAllUptoRow.holds Tryz.pinned (OpenSpec.upto foldAllSpec)

/-- 'afterglowlaw12.FoldModel', WHERE WHAT IT READS IS OF BULK AT MOST 1048576: true; the input reads as it did. -/
def foldModelUptoRow : OpenClaim := { program := "ytijnkglkchhomaagreat", sum := "df684a19caa380cc2203afa77d85fec8695b211880cd1316c9afbdece4d15999", func := "afterglow/afterglowlaw12.FoldModel", spec := "foldModel", inPlace := ["slices.overlaps[afterglow/state.Tomb]"], unfollowed := true, recurses := true, apart := false, narrowed := true }
def FoldModelUptoSaid : Prop := foldModelUptoRow.holds Tryz.pinned (OpenSpec.upto foldModelSpec)

/-- 'afterglowlaw12.FoldNow', WHERE WHAT IT READS IS OF BULK AT MOST 1048576: true; the input reads as it did. -/
def foldNowUptoRow : OpenClaim := { program := "ytijnkglkchhomaagreat", sum := "df684a19caa380cc2203afa77d85fec8695b211880cd1316c9afbdece4d15999", func := "afterglow/afterglowlaw12.FoldNow", spec := "foldNow", inPlace := ["slices.overlaps[afterglow/state.Tomb]"], unfollowed := true, recurses := true, apart := false, narrowed := true }
def FoldNowUptoSaid : Prop := foldNowUptoRow.holds Tryz.pinned (OpenSpec.upto foldNowSpec)

/-- 'afterglowlaw12.FoldOthers', WHERE WHAT IT READS IS OF BULK AT MOST 1048576: true; the input reads as it did. -/
def foldOthersUptoRow : OpenClaim := { program := "ytijnkglkchhomaagreat", sum := "df684a19caa380cc2203afa77d85fec8695b211880cd1316c9afbdece4d15999", func := "afterglow/afterglowlaw12.FoldOthers", spec := "foldOthers", inPlace := ["slices.overlaps[afterglow/state.Tomb]"], unfollowed := true, recurses := true, apart := false, narrowed := true }
def FoldOthersUptoSaid : Prop := foldOthersUptoRow.holds Tryz.pinned (OpenSpec.upto foldOthersSpec)

/-- 'afterglowlaw12.FoldAgain', WHERE WHAT IT READS IS OF BULK AT MOST 1048576: true; the input reads as it did. -/
def foldAgainUptoRow : OpenClaim := { program := "ytijnkglkchhomaagreat", sum := "df684a19caa380cc2203afa77d85fec8695b211880cd1316c9afbdece4d15999", func := "afterglow/afterglowlaw12.FoldAgain", spec := "foldAgain", inPlace := ["slices.overlaps[afterglow/state.Tomb]"], unfollowed := true, recurses := true, apart := false, narrowed := true }
def FoldAgainUptoSaid : Prop := foldAgainUptoRow.holds Tryz.pinned (OpenSpec.upto foldAgainSpec)

/-- 'afterglowlaw12.FoldErased', WHERE WHAT IT READS IS OF BULK AT MOST 1048576: true; the input reads as it did. -/
def foldErasedUptoRow : OpenClaim := { program := "ytijnkglkchhomaagreat", sum := "df684a19caa380cc2203afa77d85fec8695b211880cd1316c9afbdece4d15999", func := "afterglow/afterglowlaw12.FoldErased", spec := "foldErased", inPlace := ["slices.overlaps[afterglow/state.Tomb]"], unfollowed := true, recurses := true, apart := false, narrowed := true }
def FoldErasedUptoSaid : Prop := foldErasedUptoRow.holds Tryz.pinned (OpenSpec.upto foldErasedSpec)

/-- 'afterglowlaw12.FoldSees', WHERE WHAT IT READS IS OF BULK AT MOST 1048576: true; the input reads as it did. -/
def foldSeesUptoRow : OpenClaim := { program := "ytijnkglkchhomaagreat", sum := "df684a19caa380cc2203afa77d85fec8695b211880cd1316c9afbdece4d15999", func := "afterglow/afterglowlaw12.FoldSees", spec := "foldSees", inPlace := ["slices.overlaps[afterglow/state.Tomb]"], unfollowed := true, recurses := true, apart := false, narrowed := true }
def FoldSeesUptoSaid : Prop := foldSeesUptoRow.holds Tryz.pinned (OpenSpec.upto foldSeesSpec)

/-- 'afterglowlaw11.StateGrows', WHERE WHAT IT READS IS OF BULK AT MOST 1048576: true; the input reads as it did. -/
def stateGrowsUptoRow : OpenClaim := { program := "ytijnkglkchhomaagreat", sum := "df684a19caa380cc2203afa77d85fec8695b211880cd1316c9afbdece4d15999", func := "afterglow/afterglowlaw11.StateGrows", spec := "stateGrows", inPlace := ["slices.overlaps[afterglow/state.Tomb]"], unfollowed := true, recurses := true, apart := false, narrowed := true }
def StateGrowsUptoSaid : Prop := stateGrowsUptoRow.holds Tryz.pinned (OpenSpec.upto stateGrowsSpec)

end Rows
end Go.Proofs.YtijnkglkchhomaaGreat
