/-
  No cell of these rows narrows 'for every input' (looked for: loops, veiled, ifaces, maps, wideKeys, modest, calm, conditions, laid).
  DERIVED. THE GIVEN ROWS OF THIS SEAT. 6 by the template 'for every input the law returns true; each argument reads behind the call as it read before'; 0 by the template 'total and deterministic' (their statements: YtpicjibfbghonaaTotals.lean).
  GIVEN WITH THE SEED: the statements are not yours to turn. If you find one false, say at which input.
  Laid BY PROGRAM, IN A SANDBOX (cutbox-rows.mjs): the forced cells as the released guide's own fill.sh prints them over the translation 52c0b3aa517189ab… (all of the seat's roots in one cut). By AI agents, Wed Nov 11 2026. No macro, syntax, notation, axiom, sorry.
-/
import Derived.Test.YtpicjibfbghonaaChecked
import GoSem.Claim
import GoSem.ClaimJoined
import GoSem.ClaimMapViews
import Derived.JoinedTies
import Derived.KernelRfl
namespace Go.Proofs.Ytpicjibfbghonaa
/- THE CELL 'sum', in the pinned program and in every row, IS THE sha256 OF THE DUMP (.gsa) THAT YtpicjibfbghonaaProg.lean LOADS. Nothing in Lean hashes anything: it is a label: what it is worth is what the hold of that sum in a sandbox is worth. -/
noncomputable def Try.pinned : Pinned := { name := "ytpicjibfbghonaa", sum := "52c0b3aa517189ab398c54dbf01c5cf5cd01ad26fb2b815e22960ae3812a17b1", checked := Try.checked }
namespace Rows
def none {H : Type} : Left H := { results := [], args := [] }

/-- 'afterglowlaw01.NameRight': WHATEVER THE INPUT: true; the input reads as it did. -/
def nameRightSpec : ChangeSpec := { name := "nameRight", fn := fun _ => fun
  | [d1, d2] => { results := [.lit (.bool true)], args := [d1, d2] }
  | _ => none }
def nameRightRow : OpenClaim := { program := "ytpicjibfbghonaa", sum := "52c0b3aa517189ab398c54dbf01c5cf5cd01ad26fb2b815e22960ae3812a17b1", func := "afterglow/afterglowlaw01.NameRight", spec := "nameRight", unfollowed := true, recurses := true, apart := false }
def NameRightSaid : Prop := nameRightRow.holds Try.pinned (OpenSpec.ofChange nameRightSpec)

/-- ITS FALSE NEIGHBOUR: 'it returns false'. Refute it at one input. -/
def nameRightWrong : ChangeSpec := { name := "nameRight", fn := fun _ => fun
  | [d1, d2] => { results := [.lit (.bool false)], args := [d1, d2] }
  | _ => none }
def NameRightWrongFalsely : Prop := nameRightRow.holds Try.pinned (OpenSpec.ofChange nameRightWrong)

/-- 'afterglowlaw01.NameOrders': WHATEVER THE INPUT: true; the input reads as it did. -/
def nameOrdersSpec : ChangeSpec := { name := "nameOrders", fn := fun _ => fun
  | [d1, d2] => { results := [.lit (.bool true)], args := [d1, d2] }
  | _ => none }
def nameOrdersRow : OpenClaim := { program := "ytpicjibfbghonaa", sum := "52c0b3aa517189ab398c54dbf01c5cf5cd01ad26fb2b815e22960ae3812a17b1", func := "afterglow/afterglowlaw01.NameOrders", spec := "nameOrders", unfollowed := true, recurses := true, apart := false }
def NameOrdersSaid : Prop := nameOrdersRow.holds Try.pinned (OpenSpec.ofChange nameOrdersSpec)

/-- ITS FALSE NEIGHBOUR: 'it returns false'. Refute it at one input. -/
def nameOrdersWrong : ChangeSpec := { name := "nameOrders", fn := fun _ => fun
  | [d1, d2] => { results := [.lit (.bool false)], args := [d1, d2] }
  | _ => none }
def NameOrdersWrongFalsely : Prop := nameOrdersRow.holds Try.pinned (OpenSpec.ofChange nameOrdersWrong)

/-- 'afterglowlaw01.NameSorts': WHATEVER THE INPUT: true; the input reads as it did. -/
def nameSortsSpec : ChangeSpec := { name := "nameSorts", fn := fun _ => fun
  | [d] => { results := [.lit (.bool true)], args := [d] }
  | _ => none }
def nameSortsRow : OpenClaim := { program := "ytpicjibfbghonaa", sum := "52c0b3aa517189ab398c54dbf01c5cf5cd01ad26fb2b815e22960ae3812a17b1", func := "afterglow/afterglowlaw01.NameSorts", spec := "nameSorts", unfollowed := true, recurses := true, apart := false }
def NameSortsSaid : Prop := nameSortsRow.holds Try.pinned (OpenSpec.ofChange nameSortsSpec)

/-- ITS FALSE NEIGHBOUR: 'it returns false'. Refute it at one input. -/
def nameSortsWrong : ChangeSpec := { name := "nameSorts", fn := fun _ => fun
  | [d] => { results := [.lit (.bool false)], args := [d] }
  | _ => none }
def NameSortsWrongFalsely : Prop := nameSortsRow.holds Try.pinned (OpenSpec.ofChange nameSortsWrong)

/-- 'afterglowlaw01.NamePairs': WHATEVER THE INPUT: true; the input reads as it did. -/
def namePairsSpec : ChangeSpec := { name := "namePairs", fn := fun _ => fun
  | [d1, d2, d3] => { results := [.lit (.bool true)], args := [d1, d2, d3] }
  | _ => none }
def namePairsRow : OpenClaim := { program := "ytpicjibfbghonaa", sum := "52c0b3aa517189ab398c54dbf01c5cf5cd01ad26fb2b815e22960ae3812a17b1", func := "afterglow/afterglowlaw01.NamePairs", spec := "namePairs", unfollowed := true, recurses := true, apart := false }
def NamePairsSaid : Prop := namePairsRow.holds Try.pinned (OpenSpec.ofChange namePairsSpec)

/-- ITS FALSE NEIGHBOUR: 'it returns false'. Refute it at one input. -/
def namePairsWrong : ChangeSpec := { name := "namePairs", fn := fun _ => fun
  | [d1, d2, d3] => { results := [.lit (.bool false)], args := [d1, d2, d3] }
  | _ => none }
def NamePairsWrongFalsely : Prop := namePairsRow.holds Try.pinned (OpenSpec.ofChange namePairsWrong)

/-- 'afterglowlaw01.NameTwice': WHATEVER THE INPUT: true; the input reads as it did. -/
def nameTwiceSpec : ChangeSpec := { name := "nameTwice", fn := fun _ => fun
  | [d1, d2] => { results := [.lit (.bool true)], args := [d1, d2] }
  | _ => none }
def nameTwiceRow : OpenClaim := { program := "ytpicjibfbghonaa", sum := "52c0b3aa517189ab398c54dbf01c5cf5cd01ad26fb2b815e22960ae3812a17b1", func := "afterglow/afterglowlaw01.NameTwice", spec := "nameTwice", unfollowed := true, recurses := true, apart := false }
def NameTwiceSaid : Prop := nameTwiceRow.holds Try.pinned (OpenSpec.ofChange nameTwiceSpec)

/-- ITS FALSE NEIGHBOUR: 'it returns false'. Refute it at one input. -/
def nameTwiceWrong : ChangeSpec := { name := "nameTwice", fn := fun _ => fun
  | [d1, d2] => { results := [.lit (.bool false)], args := [d1, d2] }
  | _ => none }
def NameTwiceWrongFalsely : Prop := nameTwiceRow.holds Try.pinned (OpenSpec.ofChange nameTwiceWrong)

/-- 'afterglowlaw01.NameLeast': WHATEVER THE INPUT: true; the input reads as it did. -/
def nameLeastSpec : ChangeSpec := { name := "nameLeast", fn := fun _ => fun
  | [d1, d2] => { results := [.lit (.bool true)], args := [d1, d2] }
  | _ => none }
def nameLeastRow : OpenClaim := { program := "ytpicjibfbghonaa", sum := "52c0b3aa517189ab398c54dbf01c5cf5cd01ad26fb2b815e22960ae3812a17b1", func := "afterglow/afterglowlaw01.NameLeast", spec := "nameLeast", unfollowed := true, recurses := true, apart := false }
def NameLeastSaid : Prop := nameLeastRow.holds Try.pinned (OpenSpec.ofChange nameLeastSpec)

/-- ITS FALSE NEIGHBOUR: 'it returns false'. Refute it at one input. -/
def nameLeastWrong : ChangeSpec := { name := "nameLeast", fn := fun _ => fun
  | [d1, d2] => { results := [.lit (.bool false)], args := [d1, d2] }
  | _ => none }
def NameLeastWrongFalsely : Prop := nameLeastRow.holds Try.pinned (OpenSpec.ofChange nameLeastWrong)

/- THE SECOND FORM. 'bulk': how many values and letters a reading holds, each counted each time it is reached (what is shared counts as often as it is met; a slice's spare places count too). A statement '..UptoSaid' is the law's where the arguments, and the package variables that the reading takes, are together of bulk at most 1048576: NARROWER than '..Said'. Prove '..Said' where nothing that the law and all that it calls make is longer than what came in: it says more and counts as full. Else prove '..UptoSaid'. A law counts once. -/
mutual
def uptoBulk {H : Type} : DataW H → Nat
  | .lit (.string bytes) => bytes.length + 1
  | .lit _ => 1
  | .nil => 1
  | .ptr d => uptoBulk d + 1
  | .slice elems spare => uptoBulkAll elems + uptoBulkAll spare + 1
  | .agg parts => uptoBulkAll parts + 1
  | .iface _ d => uptoBulk d + 1
  | .map entries => uptoBulkEntries entries + 1
  | .held _ => 1
def uptoBulkAll {H : Type} : List (DataW H) → Nat
  | [] => 0
  | d :: r => uptoBulk d + uptoBulkAll r
def uptoBulkEntries {H : Type} : List (Lit × DataW H) → Nat
  | [] => 0
  | x :: r => uptoBulkEntry x + uptoBulkEntries r
def uptoBulkEntry {H : Type} : Lit × DataW H → Nat
  | (.string bytes, d) => bytes.length + uptoBulk d + 1
  | (_, d) => uptoBulk d + 1
 end
def uptoSmall : (H : Type) → List (DataW H) → Bool := fun _ ds => decide (uptoBulkAll ds ≤ 1048576)
def OpenSpec.upto (s : _root_.Go.ChangeSpec) : _root_.Go.OpenSpec := { _root_.Go.OpenSpec.ofChange s with cond := some uptoSmall }

/-- 'afterglowlaw01.NameRight', WHERE WHAT IT READS IS OF BULK AT MOST 1048576: true; the input reads as it did. -/
def nameRightUptoRow : OpenClaim := { program := "ytpicjibfbghonaa", sum := "52c0b3aa517189ab398c54dbf01c5cf5cd01ad26fb2b815e22960ae3812a17b1", func := "afterglow/afterglowlaw01.NameRight", spec := "nameRight", unfollowed := true, recurses := true, apart := false, narrowed := true }
def NameRightUptoSaid : Prop := nameRightUptoRow.holds Try.pinned (OpenSpec.upto nameRightSpec)

/-- 'afterglowlaw01.NameOrders', WHERE WHAT IT READS IS OF BULK AT MOST 1048576: true; the input reads as it did. -/
def nameOrdersUptoRow : OpenClaim := { program := "ytpicjibfbghonaa", sum := "52c0b3aa517189ab398c54dbf01c5cf5cd01ad26fb2b815e22960ae3812a17b1", func := "afterglow/afterglowlaw01.NameOrders", spec := "nameOrders", unfollowed := true, recurses := true, apart := false, narrowed := true }
def NameOrdersUptoSaid : Prop := nameOrdersUptoRow.holds Try.pinned (OpenSpec.upto nameOrdersSpec)

/-- 'afterglowlaw01.NameSorts', WHERE WHAT IT READS IS OF BULK AT MOST 1048576: true; the input reads as it did. -/
def nameSortsUptoRow : OpenClaim := { program := "ytpicjibfbghonaa", sum := "52c0b3aa517189ab398c54dbf01c5cf5cd01ad26fb2b815e22960ae3812a17b1", func := "afterglow/afterglowlaw01.NameSorts", spec := "nameSorts", unfollowed := true, recurses := true, apart := false, narrowed := true }
def NameSortsUptoSaid : Prop := nameSortsUptoRow.holds Try.pinned (OpenSpec.upto nameSortsSpec)

/-- 'afterglowlaw01.NamePairs', WHERE WHAT IT READS IS OF BULK AT MOST 1048576: true; the input reads as it did. -/
def namePairsUptoRow : OpenClaim := { program := "ytpicjibfbghonaa", sum := "52c0b3aa517189ab398c54dbf01c5cf5cd01ad26fb2b815e22960ae3812a17b1", func := "afterglow/afterglowlaw01.NamePairs", spec := "namePairs", unfollowed := true, recurses := true, apart := false, narrowed := true }
def NamePairsUptoSaid : Prop := namePairsUptoRow.holds Try.pinned (OpenSpec.upto namePairsSpec)

/-- 'afterglowlaw01.NameTwice', WHERE WHAT IT READS IS OF BULK AT MOST 1048576: true; the input reads as it did. -/
def nameTwiceUptoRow : OpenClaim := { program := "ytpicjibfbghonaa", sum := "52c0b3aa517189ab398c54dbf01c5cf5cd01ad26fb2b815e22960ae3812a17b1", func := "afterglow/afterglowlaw01.NameTwice", spec := "nameTwice", unfollowed := true, recurses := true, apart := false, narrowed := true }
def NameTwiceUptoSaid : Prop := nameTwiceUptoRow.holds Try.pinned (OpenSpec.upto nameTwiceSpec)

/-- 'afterglowlaw01.NameLeast', WHERE WHAT IT READS IS OF BULK AT MOST 1048576: true; the input reads as it did. -/
def nameLeastUptoRow : OpenClaim := { program := "ytpicjibfbghonaa", sum := "52c0b3aa517189ab398c54dbf01c5cf5cd01ad26fb2b815e22960ae3812a17b1", func := "afterglow/afterglowlaw01.NameLeast", spec := "nameLeast", unfollowed := true, recurses := true, apart := false, narrowed := true }
def NameLeastUptoSaid : Prop := nameLeastUptoRow.holds Try.pinned (OpenSpec.upto nameLeastSpec)

end Rows
end Go.Proofs.Ytpicjibfbghonaa
