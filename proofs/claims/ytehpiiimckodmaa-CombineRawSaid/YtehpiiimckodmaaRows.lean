/-
  No cell of these rows narrows 'for every input' (looked for: loops, veiled, ifaces, maps, wideKeys, modest, calm, conditions, laid).
  DERIVED. THE GIVEN ROWS OF THIS SEAT. 5 by the template 'for every input the law returns true; each argument reads behind the call as it read before'; 0 by the template 'total and deterministic' (their statements: YtehpiiimckodmaaTotals.lean).
  GIVEN WITH THE SEED: the statements are not yours to turn. If you find one false, say at which input.
  Laid BY PROGRAM, IN A SANDBOX (cutbox-rows.mjs): the forced cells as the released guide's own fill.sh prints them over the translation d701fe82a927fccb… (all of the seat's roots in one cut). By AI agents, Wed Nov 11 2026. No macro, syntax, notation, axiom, sorry.
-/
import Derived.Test.YtehpiiimckodmaaChecked
import GoSem.Claim
import GoSem.ClaimJoined
import GoSem.ClaimMapViews
import Derived.JoinedTies
import Derived.KernelRfl
namespace Go.Proofs.Ytehpiiimckodmaa
/- THE CELL 'sum', in the pinned program and in every row, IS THE sha256 OF THE DUMP (.gsa) THAT YtehpiiimckodmaaProg.lean LOADS. Nothing in Lean hashes anything: it is a label: what it is worth is what the hold of that sum in a sandbox is worth. -/
noncomputable def Try.pinned : Pinned := { name := "ytehpiiimckodmaa", sum := "d701fe82a927fccb330a1ba872e4c4d4ef37de9e0020eff05cdbb4542797efcf", checked := Try.checked }
namespace Rows
def none {H : Type} : Left H := { results := [], args := [] }

/-- 'semigrouplaw35.MonomialAgrees': WHATEVER THE INPUT: true; the input reads as it did. -/
def monomialAgreesSpec : ChangeSpec := { name := "monomialAgrees", fn := fun _ => fun
  | [d1, d2] => { results := [.lit (.bool true)], args := [d1, d2] }
  | _ => none }
def monomialAgreesRow : OpenClaim := { program := "ytehpiiimckodmaa", sum := "d701fe82a927fccb330a1ba872e4c4d4ef37de9e0020eff05cdbb4542797efcf", func := "semigroup/semigrouplaw35.MonomialAgrees", spec := "monomialAgrees", unfollowed := true, recurses := true, plainKeys := false, apart := false }
def MonomialAgreesSaid : Prop := monomialAgreesRow.holds Try.pinned (OpenSpec.ofChange monomialAgreesSpec)

/-- ITS FALSE NEIGHBOUR: 'it returns false'. Refute it at one input. -/
def monomialAgreesWrong : ChangeSpec := { name := "monomialAgrees", fn := fun _ => fun
  | [d1, d2] => { results := [.lit (.bool false)], args := [d1, d2] }
  | _ => none }
def MonomialAgreesWrongFalsely : Prop := monomialAgreesRow.holds Try.pinned (OpenSpec.ofChange monomialAgreesWrong)

/-- 'semigrouplaw34.CombineRaw': WHATEVER THE INPUT: true; the input reads as it did. -/
def combineRawSpec : ChangeSpec := { name := "combineRaw", fn := fun _ => fun
  | [d1, d2, d3] => { results := [.lit (.bool true)], args := [d1, d2, d3] }
  | _ => none }
def combineRawRow : OpenClaim := { program := "ytehpiiimckodmaa", sum := "d701fe82a927fccb330a1ba872e4c4d4ef37de9e0020eff05cdbb4542797efcf", func := "semigroup/semigrouplaw34.CombineRaw", spec := "combineRaw", unfollowed := true, recurses := true, plainKeys := false, apart := false }
def CombineRawSaid : Prop := combineRawRow.holds Try.pinned (OpenSpec.ofChange combineRawSpec)

/-- ITS FALSE NEIGHBOUR: 'it returns false'. Refute it at one input. -/
def combineRawWrong : ChangeSpec := { name := "combineRaw", fn := fun _ => fun
  | [d1, d2, d3] => { results := [.lit (.bool false)], args := [d1, d2, d3] }
  | _ => none }
def CombineRawWrongFalsely : Prop := combineRawRow.holds Try.pinned (OpenSpec.ofChange combineRawWrong)

/-- 'semigrouplaw37.CountingOrder': WHATEVER THE INPUT: true; the input reads as it did. -/
def countingOrderSpec : ChangeSpec := { name := "countingOrder", fn := fun _ => fun
  | [d1, d2, d3] => { results := [.lit (.bool true)], args := [d1, d2, d3] }
  | _ => none }
def countingOrderRow : OpenClaim := { program := "ytehpiiimckodmaa", sum := "d701fe82a927fccb330a1ba872e4c4d4ef37de9e0020eff05cdbb4542797efcf", func := "semigroup/semigrouplaw37.CountingOrder", spec := "countingOrder", plainKeys := false, apart := false }
def CountingOrderSaid : Prop := countingOrderRow.holds Try.pinned (OpenSpec.ofChange countingOrderSpec)

/-- ITS FALSE NEIGHBOUR: 'it returns false'. Refute it at one input. -/
def countingOrderWrong : ChangeSpec := { name := "countingOrder", fn := fun _ => fun
  | [d1, d2, d3] => { results := [.lit (.bool false)], args := [d1, d2, d3] }
  | _ => none }
def CountingOrderWrongFalsely : Prop := countingOrderRow.holds Try.pinned (OpenSpec.ofChange countingOrderWrong)

/-- 'semigrouplaw37.CountingRaw': WHATEVER THE INPUT: true; the input reads as it did. -/
def countingRawSpec : ChangeSpec := { name := "countingRaw", fn := fun _ => fun
  | [d1, d2] => { results := [.lit (.bool true)], args := [d1, d2] }
  | _ => none }
def countingRawRow : OpenClaim := { program := "ytehpiiimckodmaa", sum := "d701fe82a927fccb330a1ba872e4c4d4ef37de9e0020eff05cdbb4542797efcf", func := "semigroup/semigrouplaw37.CountingRaw", spec := "countingRaw", plainKeys := false, apart := false }
def CountingRawSaid : Prop := countingRawRow.holds Try.pinned (OpenSpec.ofChange countingRawSpec)

/-- ITS FALSE NEIGHBOUR: 'it returns false'. Refute it at one input. -/
def countingRawWrong : ChangeSpec := { name := "countingRaw", fn := fun _ => fun
  | [d1, d2] => { results := [.lit (.bool false)], args := [d1, d2] }
  | _ => none }
def CountingRawWrongFalsely : Prop := countingRawRow.holds Try.pinned (OpenSpec.ofChange countingRawWrong)

/-- 'semigrouplaw37.CountingMade': WHATEVER THE INPUT: true; the input reads as it did. -/
def countingMadeSpec : ChangeSpec := { name := "countingMade", fn := fun _ => fun
  | [d1, d2, d3, d4] => { results := [.lit (.bool true)], args := [d1, d2, d3, d4] }
  | _ => none }
def countingMadeRow : OpenClaim := { program := "ytehpiiimckodmaa", sum := "d701fe82a927fccb330a1ba872e4c4d4ef37de9e0020eff05cdbb4542797efcf", func := "semigroup/semigrouplaw37.CountingMade", spec := "countingMade", plainKeys := false, apart := false }
def CountingMadeSaid : Prop := countingMadeRow.holds Try.pinned (OpenSpec.ofChange countingMadeSpec)

/-- ITS FALSE NEIGHBOUR: 'it returns false'. Refute it at one input. -/
def countingMadeWrong : ChangeSpec := { name := "countingMade", fn := fun _ => fun
  | [d1, d2, d3, d4] => { results := [.lit (.bool false)], args := [d1, d2, d3, d4] }
  | _ => none }
def CountingMadeWrongFalsely : Prop := countingMadeRow.holds Try.pinned (OpenSpec.ofChange countingMadeWrong)

/- THE SECOND FORM. 'bulk': how many values and letters a reading holds, each counted each time it is reached (what is shared counts as often as it is met; a slice's spare places count too). A statement '..UptoSaid' is the law's where the arguments, and the package variables that the reading takes, are together of bulk at most 1048576: NARROWER than '..Said'. Prove '..Said' where nothing that the law and all that it calls make is longer than what came in: it says more and counts as full. Else prove '..UptoSaid'. A law counts once. -/
mutual
def uptoBulk {H : Type} : DataW H → Nat
  | .lit (.string bytes) => bytes.length + 1
  | .lit _ => 1
  | .nil => 1
  | .ptr d => uptoBulk d + 1
  | .slice elems spare => uptoBulkAll elems + uptoBulkAll spare + 1
  | .agg parts => uptoBulkAll parts + 1
  | .iface _ d => uptoBulk d + 1
  | .map entries => uptoBulkEntries entries + 1
  | .held _ => 1
def uptoBulkAll {H : Type} : List (DataW H) → Nat
  | [] => 0
  | d :: r => uptoBulk d + uptoBulkAll r
def uptoBulkEntries {H : Type} : List (Lit × DataW H) → Nat
  | [] => 0
  | x :: r => uptoBulkEntry x + uptoBulkEntries r
def uptoBulkEntry {H : Type} : Lit × DataW H → Nat
  | (.string bytes, d) => bytes.length + uptoBulk d + 1
  | (_, d) => uptoBulk d + 1
 end
def uptoSmall : (H : Type) → List (DataW H) → Bool := fun _ ds => decide (uptoBulkAll ds ≤ 1048576)
def OpenSpec.upto (s : _root_.Go.ChangeSpec) : _root_.Go.OpenSpec := { _root_.Go.OpenSpec.ofChange s with cond := some uptoSmall }

/-- 'semigrouplaw35.MonomialAgrees', WHERE WHAT IT READS IS OF BULK AT MOST 1048576: true; the input reads as it did. -/
def monomialAgreesUptoRow : OpenClaim := { program := "ytehpiiimckodmaa", sum := "d701fe82a927fccb330a1ba872e4c4d4ef37de9e0020eff05cdbb4542797efcf", func := "semigroup/semigrouplaw35.MonomialAgrees", spec := "monomialAgrees", unfollowed := true, recurses := true, plainKeys := false, apart := false, narrowed := true }
def MonomialAgreesUptoSaid : Prop := monomialAgreesUptoRow.holds Try.pinned (OpenSpec.upto monomialAgreesSpec)

/-- 'semigrouplaw34.CombineRaw', WHERE WHAT IT READS IS OF BULK AT MOST 1048576: true; the input reads as it did. -/
def combineRawUptoRow : OpenClaim := { program := "ytehpiiimckodmaa", sum := "d701fe82a927fccb330a1ba872e4c4d4ef37de9e0020eff05cdbb4542797efcf", func := "semigroup/semigrouplaw34.CombineRaw", spec := "combineRaw", unfollowed := true, recurses := true, plainKeys := false, apart := false, narrowed := true }
def CombineRawUptoSaid : Prop := combineRawUptoRow.holds Try.pinned (OpenSpec.upto combineRawSpec)

/-- 'semigrouplaw37.CountingOrder', WHERE WHAT IT READS IS OF BULK AT MOST 1048576: true; the input reads as it did. -/
def countingOrderUptoRow : OpenClaim := { program := "ytehpiiimckodmaa", sum := "d701fe82a927fccb330a1ba872e4c4d4ef37de9e0020eff05cdbb4542797efcf", func := "semigroup/semigrouplaw37.CountingOrder", spec := "countingOrder", plainKeys := false, apart := false, narrowed := true }
def CountingOrderUptoSaid : Prop := countingOrderUptoRow.holds Try.pinned (OpenSpec.upto countingOrderSpec)

/-- 'semigrouplaw37.CountingRaw', WHERE WHAT IT READS IS OF BULK AT MOST 1048576: true; the input reads as it did. -/
def countingRawUptoRow : OpenClaim := { program := "ytehpiiimckodmaa", sum := "d701fe82a927fccb330a1ba872e4c4d4ef37de9e0020eff05cdbb4542797efcf", func := "semigroup/semigrouplaw37.CountingRaw", spec := "countingRaw", plainKeys := false, apart := false, narrowed := true }
def CountingRawUptoSaid : Prop := countingRawUptoRow.holds Try.pinned (OpenSpec.upto countingRawSpec)

/-- 'semigrouplaw37.CountingMade', WHERE WHAT IT READS IS OF BULK AT MOST 1048576: true; the input reads as it did. -/
def countingMadeUptoRow : OpenClaim := { program := "ytehpiiimckodmaa", sum := "d701fe82a927fccb330a1ba872e4c4d4ef37de9e0020eff05cdbb4542797efcf", func := "semigroup/semigrouplaw37.CountingMade", spec := "countingMade", plainKeys := false, apart := false, narrowed := true }
def CountingMadeUptoSaid : Prop := countingMadeUptoRow.holds Try.pinned (OpenSpec.upto countingMadeSpec)

end Rows
end Go.Proofs.Ytehpiiimckodmaa
