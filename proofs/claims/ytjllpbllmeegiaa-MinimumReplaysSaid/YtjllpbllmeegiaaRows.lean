/-
  No cell of these rows narrows 'for every input' (looked for: loops, veiled, ifaces, maps, wideKeys, modest, calm, conditions, laid).
  DERIVED. THE GIVEN ROWS OF THIS SEAT. 4 by the template 'for every input the law returns true; each argument reads behind the call as it read before'; 0 by the template 'total and deterministic' (their statements: YtjllpbllmeegiaaTotals.lean).
  GIVEN WITH THE SEED: the statements are not yours to turn. If you find one false, say at which input.
  Laid BY PROGRAM, IN A SANDBOX (cutbox-rows.mjs): the forced cells as the released guide's own fill.sh prints them over the translation 9de79c370b14d469… (all of the seat's roots in one cut). By AI agents, Wed Nov 11 2026. No macro, syntax, notation, axiom, sorry.
-/
import Derived.Test.YtjllpbllmeegiaaChecked
import GoSem.Claim
import GoSem.ClaimJoined
import GoSem.ClaimMapViews
import Derived.JoinedTies
import Derived.KernelRfl
namespace Go.Proofs.Ytjllpbllmeegiaa
/- THE CELL 'sum', in the pinned program and in every row, IS THE sha256 OF THE DUMP (.gsa) THAT YtjllpbllmeegiaaProg.lean LOADS. Nothing in Lean hashes anything: it is a label: what it is worth is what the hold of that sum in a sandbox is worth. -/
noncomputable def Try.pinned : Pinned := { name := "ytjllpbllmeegiaa", sum := "9de79c370b14d469bea963281b497aaae140b019092f02a15e431813c4a77f6a", checked := Try.checked }
namespace Rows
def none {H : Type} : Left H := { results := [], args := [] }

/-- 'plenumlaw14.MinimumValues': WHATEVER THE INPUT: true; the input reads as it did. -/
def minimumValuesSpec : ChangeSpec := { name := "minimumValues", fn := fun _ => fun
  | [d1, d2, d3] => { results := [.lit (.bool true)], args := [d1, d2, d3] }
  | _ => none }
def minimumValuesRow : OpenClaim := { program := "ytjllpbllmeegiaa", sum := "9de79c370b14d469bea963281b497aaae140b019092f02a15e431813c4a77f6a", func := "plenum/plenumlaw14.MinimumValues", spec := "minimumValues", apart := false }
def MinimumValuesSaid : Prop := minimumValuesRow.holds Try.pinned (OpenSpec.ofChange minimumValuesSpec)

/-- ITS FALSE NEIGHBOUR: 'it returns false'. Refute it at one input. -/
def minimumValuesWrong : ChangeSpec := { name := "minimumValues", fn := fun _ => fun
  | [d1, d2, d3] => { results := [.lit (.bool false)], args := [d1, d2, d3] }
  | _ => none }
def MinimumValuesWrongFalsely : Prop := minimumValuesRow.holds Try.pinned (OpenSpec.ofChange minimumValuesWrong)

/-- 'plenumlaw14.MinimumUrgent': WHATEVER THE INPUT: true; the input reads as it did. -/
def minimumUrgentSpec : ChangeSpec := { name := "minimumUrgent", fn := fun _ => fun
  | [d1, d2, d3] => { results := [.lit (.bool true)], args := [d1, d2, d3] }
  | _ => none }
def minimumUrgentRow : OpenClaim := { program := "ytjllpbllmeegiaa", sum := "9de79c370b14d469bea963281b497aaae140b019092f02a15e431813c4a77f6a", func := "plenum/plenumlaw14.MinimumUrgent", spec := "minimumUrgent", apart := false }
def MinimumUrgentSaid : Prop := minimumUrgentRow.holds Try.pinned (OpenSpec.ofChange minimumUrgentSpec)

/-- ITS FALSE NEIGHBOUR: 'it returns false'. Refute it at one input. -/
def minimumUrgentWrong : ChangeSpec := { name := "minimumUrgent", fn := fun _ => fun
  | [d1, d2, d3] => { results := [.lit (.bool false)], args := [d1, d2, d3] }
  | _ => none }
def MinimumUrgentWrongFalsely : Prop := minimumUrgentRow.holds Try.pinned (OpenSpec.ofChange minimumUrgentWrong)

/-- 'plenumlaw14.MinimumReplays': WHATEVER THE INPUT: true; the input reads as it did. -/
def minimumReplaysSpec : ChangeSpec := { name := "minimumReplays", fn := fun _ => fun
  | [d1, d2, d3] => { results := [.lit (.bool true)], args := [d1, d2, d3] }
  | _ => none }
def minimumReplaysRow : OpenClaim := { program := "ytjllpbllmeegiaa", sum := "9de79c370b14d469bea963281b497aaae140b019092f02a15e431813c4a77f6a", func := "plenum/plenumlaw14.MinimumReplays", spec := "minimumReplays", unfollowed := true, recurses := true, apart := false }
def MinimumReplaysSaid : Prop := minimumReplaysRow.holds Try.pinned (OpenSpec.ofChange minimumReplaysSpec)

/-- ITS FALSE NEIGHBOUR: 'it returns false'. Refute it at one input. -/
def minimumReplaysWrong : ChangeSpec := { name := "minimumReplays", fn := fun _ => fun
  | [d1, d2, d3] => { results := [.lit (.bool false)], args := [d1, d2, d3] }
  | _ => none }
def MinimumReplaysWrongFalsely : Prop := minimumReplaysRow.holds Try.pinned (OpenSpec.ofChange minimumReplaysWrong)

/-- 'plenumlaw14.MinimumKept': WHATEVER THE INPUT: true; the input reads as it did. -/
def minimumKeptSpec : ChangeSpec := { name := "minimumKept", fn := fun _ => fun
  | [d1, d2, d3] => { results := [.lit (.bool true)], args := [d1, d2, d3] }
  | _ => none }
def minimumKeptRow : OpenClaim := { program := "ytjllpbllmeegiaa", sum := "9de79c370b14d469bea963281b497aaae140b019092f02a15e431813c4a77f6a", func := "plenum/plenumlaw14.MinimumKept", spec := "minimumKept", unfollowed := true, recurses := true, apart := false }
def MinimumKeptSaid : Prop := minimumKeptRow.holds Try.pinned (OpenSpec.ofChange minimumKeptSpec)

/-- ITS FALSE NEIGHBOUR: 'it returns false'. Refute it at one input. -/
def minimumKeptWrong : ChangeSpec := { name := "minimumKept", fn := fun _ => fun
  | [d1, d2, d3] => { results := [.lit (.bool false)], args := [d1, d2, d3] }
  | _ => none }
def MinimumKeptWrongFalsely : Prop := minimumKeptRow.holds Try.pinned (OpenSpec.ofChange minimumKeptWrong)

/- THE SECOND FORM. 'bulk': how many values and letters a reading holds, each counted each time it is reached (what is shared counts as often as it is met; a slice's spare places count too). A statement '..UptoSaid' is the law's where the arguments, and the package variables that the reading takes, are together of bulk at most 1048576: NARROWER than '..Said'. Prove '..Said' where nothing that the law and all that it calls make is longer than what came in: it says more and counts as full. Else prove '..UptoSaid'. A law counts once. -/
mutual
def uptoBulk {H : Type} : DataW H → Nat
  | .lit (.string bytes) => bytes.length + 1
  | .lit _ => 1
  | .nil => 1
  | .ptr d => uptoBulk d + 1
  | .slice elems spare => uptoBulkAll elems + uptoBulkAll spare + 1
  | .agg parts => uptoBulkAll parts + 1
  | .iface _ d => uptoBulk d + 1
  | .map entries => uptoBulkEntries entries + 1
  | .held _ => 1
def uptoBulkAll {H : Type} : List (DataW H) → Nat
  | [] => 0
  | d :: r => uptoBulk d + uptoBulkAll r
def uptoBulkEntries {H : Type} : List (Lit × DataW H) → Nat
  | [] => 0
  | x :: r => uptoBulkEntry x + uptoBulkEntries r
def uptoBulkEntry {H : Type} : Lit × DataW H → Nat
  | (.string bytes, d) => bytes.length + uptoBulk d + 1
  | (_, d) => uptoBulk d + 1
 end
def uptoSmall : (H : Type) → List (DataW H) → Bool := fun _ ds => decide (uptoBulkAll ds ≤ 1048576)
def OpenSpec.upto (s : _root_.Go.ChangeSpec) : _root_.Go.OpenSpec := { _root_.Go.OpenSpec.ofChange s with cond := some uptoSmall }

/-- 'plenumlaw14.MinimumValues', WHERE WHAT IT READS IS OF BULK AT MOST 1048576: true; the input reads as it did. -/
def minimumValuesUptoRow : OpenClaim := { program := "ytjllpbllmeegiaa", sum := "9de79c370b14d469bea963281b497aaae140b019092f02a15e431813c4a77f6a", func := "plenum/plenumlaw14.MinimumValues", spec := "minimumValues", apart := false, narrowed := true }
def MinimumValuesUptoSaid : Prop := minimumValuesUptoRow.holds Try.pinned (OpenSpec.upto minimumValuesSpec)

/-- 'plenumlaw14.MinimumUrgent', WHERE WHAT IT READS IS OF BULK AT MOST 1048576: true; the input reads as it did. -/
def minimumUrgentUptoRow : OpenClaim := { program := "ytjllpbllmeegiaa", sum := "9de79c370b14d469bea963281b497aaae140b019092f02a15e431813c4a77f6a", func := "plenum/plenumlaw14.MinimumUrgent", spec := "minimumUrgent", apart := false, narrowed := true }
def MinimumUrgentUptoSaid : Prop := minimumUrgentUptoRow.holds Try.pinned (OpenSpec.upto minimumUrgentSpec)

/-- 'plenumlaw14.MinimumReplays', WHERE WHAT IT READS IS OF BULK AT MOST 1048576: true; the input reads as it did. -/
def minimumReplaysUptoRow : OpenClaim := { program := "ytjllpbllmeegiaa", sum := "9de79c370b14d469bea963281b497aaae140b019092f02a15e431813c4a77f6a", func := "plenum/plenumlaw14.MinimumReplays", spec := "minimumReplays", unfollowed := true, recurses := true, apart := false, narrowed := true }
def MinimumReplaysUptoSaid : Prop := minimumReplaysUptoRow.holds Try.pinned (OpenSpec.upto minimumReplaysSpec)

/-- 'plenumlaw14.MinimumKept', WHERE WHAT IT READS IS OF BULK AT MOST 1048576: true; the input reads as it did. -/
def minimumKeptUptoRow : OpenClaim := { program := "ytjllpbllmeegiaa", sum := "9de79c370b14d469bea963281b497aaae140b019092f02a15e431813c4a77f6a", func := "plenum/plenumlaw14.MinimumKept", spec := "minimumKept", unfollowed := true, recurses := true, apart := false, narrowed := true }
def MinimumKeptUptoSaid : Prop := minimumKeptUptoRow.holds Try.pinned (OpenSpec.upto minimumKeptSpec)

end Rows
end Go.Proofs.Ytjllpbllmeegiaa
