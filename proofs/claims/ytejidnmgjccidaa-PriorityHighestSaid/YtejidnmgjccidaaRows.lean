/-
  No cell of these rows narrows 'for every input' (looked for: loops, veiled, ifaces, maps, wideKeys, modest, calm, conditions, laid).
  DERIVED. THE GIVEN ROWS OF THIS SEAT. 7 by the template 'for every input the law returns true; each argument reads behind the call as it read before'; 0 by the template 'total and deterministic' (their statements: YtejidnmgjccidaaTotals.lean).
  GIVEN WITH THE SEED: the statements are not yours to turn. If you find one false, say at which input.
  Laid BY PROGRAM, IN A SANDBOX (cutbox-rows.mjs): the forced cells as the released guide's own fill.sh prints them over the translation b6e714d3ae028c77… (all of the seat's roots in one cut). By AI agents, Wed Nov 11 2026. No macro, syntax, notation, axiom, sorry.
-/
import Derived.Test.YtejidnmgjccidaaChecked
import GoSem.Claim
import GoSem.ClaimJoined
import GoSem.ClaimMapViews
import Derived.JoinedTies
import Derived.KernelRfl
namespace Go.Proofs.Ytejidnmgjccidaa
/- THE CELL 'sum', in the pinned program and in every row, IS THE sha256 OF THE DUMP (.gsa) THAT YtejidnmgjccidaaProg.lean LOADS. Nothing in Lean hashes anything: it is a label: what it is worth is what the hold of that sum in a sandbox is worth. -/
noncomputable def Try.pinned : Pinned := { name := "ytejidnmgjccidaa", sum := "b6e714d3ae028c776f35fc4555780b35256b959d0a0e159a02d5c3963a2b1946", checked := Try.checked }
namespace Rows
def none {H : Type} : Left H := { results := [], args := [] }

/-- 'plenumlaw13.PriorityArrays': WHATEVER THE INPUT: true; the input reads as it did. -/
def priorityArraysSpec : ChangeSpec := { name := "priorityArrays", fn := fun _ => fun
  | [d1, d2, d3, d4] => { results := [.lit (.bool true)], args := [d1, d2, d3, d4] }
  | _ => none }
def priorityArraysRow : OpenClaim := { program := "ytejidnmgjccidaa", sum := "b6e714d3ae028c776f35fc4555780b35256b959d0a0e159a02d5c3963a2b1946", func := "plenum/plenumlaw13.PriorityArrays", spec := "priorityArrays", apart := false }
def PriorityArraysSaid : Prop := priorityArraysRow.holds Try.pinned (OpenSpec.ofChange priorityArraysSpec)

/-- ITS FALSE NEIGHBOUR: 'it returns false'. Refute it at one input. -/
def priorityArraysWrong : ChangeSpec := { name := "priorityArrays", fn := fun _ => fun
  | [d1, d2, d3, d4] => { results := [.lit (.bool false)], args := [d1, d2, d3, d4] }
  | _ => none }
def PriorityArraysWrongFalsely : Prop := priorityArraysRow.holds Try.pinned (OpenSpec.ofChange priorityArraysWrong)

/-- 'plenumlaw13.PriorityReads': WHATEVER THE INPUT: true; the input reads as it did. -/
def priorityReadsSpec : ChangeSpec := { name := "priorityReads", fn := fun _ => fun
  | [d1, d2, d3] => { results := [.lit (.bool true)], args := [d1, d2, d3] }
  | _ => none }
def priorityReadsRow : OpenClaim := { program := "ytejidnmgjccidaa", sum := "b6e714d3ae028c776f35fc4555780b35256b959d0a0e159a02d5c3963a2b1946", func := "plenum/plenumlaw13.PriorityReads", spec := "priorityReads", apart := false }
def PriorityReadsSaid : Prop := priorityReadsRow.holds Try.pinned (OpenSpec.ofChange priorityReadsSpec)

/-- ITS FALSE NEIGHBOUR: 'it returns false'. Refute it at one input. -/
def priorityReadsWrong : ChangeSpec := { name := "priorityReads", fn := fun _ => fun
  | [d1, d2, d3] => { results := [.lit (.bool false)], args := [d1, d2, d3] }
  | _ => none }
def PriorityReadsWrongFalsely : Prop := priorityReadsRow.holds Try.pinned (OpenSpec.ofChange priorityReadsWrong)

/-- 'plenumlaw13.PriorityPuts': WHATEVER THE INPUT: true; the input reads as it did. -/
def priorityPutsSpec : ChangeSpec := { name := "priorityPuts", fn := fun _ => fun
  | [d1, d2, d3] => { results := [.lit (.bool true)], args := [d1, d2, d3] }
  | _ => none }
def priorityPutsRow : OpenClaim := { program := "ytejidnmgjccidaa", sum := "b6e714d3ae028c776f35fc4555780b35256b959d0a0e159a02d5c3963a2b1946", func := "plenum/plenumlaw13.PriorityPuts", spec := "priorityPuts", apart := false }
def PriorityPutsSaid : Prop := priorityPutsRow.holds Try.pinned (OpenSpec.ofChange priorityPutsSpec)

/-- ITS FALSE NEIGHBOUR: 'it returns false'. Refute it at one input. -/
def priorityPutsWrong : ChangeSpec := { name := "priorityPuts", fn := fun _ => fun
  | [d1, d2, d3] => { results := [.lit (.bool false)], args := [d1, d2, d3] }
  | _ => none }
def PriorityPutsWrongFalsely : Prop := priorityPutsRow.holds Try.pinned (OpenSpec.ofChange priorityPutsWrong)

/-- 'plenumlaw13.PriorityJoins': WHATEVER THE INPUT: true; the input reads as it did. -/
def priorityJoinsSpec : ChangeSpec := { name := "priorityJoins", fn := fun _ => fun
  | [d1, d2, d3] => { results := [.lit (.bool true)], args := [d1, d2, d3] }
  | _ => none }
def priorityJoinsRow : OpenClaim := { program := "ytejidnmgjccidaa", sum := "b6e714d3ae028c776f35fc4555780b35256b959d0a0e159a02d5c3963a2b1946", func := "plenum/plenumlaw13.PriorityJoins", spec := "priorityJoins", apart := false }
def PriorityJoinsSaid : Prop := priorityJoinsRow.holds Try.pinned (OpenSpec.ofChange priorityJoinsSpec)

/-- ITS FALSE NEIGHBOUR: 'it returns false'. Refute it at one input. -/
def priorityJoinsWrong : ChangeSpec := { name := "priorityJoins", fn := fun _ => fun
  | [d1, d2, d3] => { results := [.lit (.bool false)], args := [d1, d2, d3] }
  | _ => none }
def PriorityJoinsWrongFalsely : Prop := priorityJoinsRow.holds Try.pinned (OpenSpec.ofChange priorityJoinsWrong)

/-- 'plenumlaw13.PriorityHighest': WHATEVER THE INPUT: true; the input reads as it did. -/
def priorityHighestSpec : ChangeSpec := { name := "priorityHighest", fn := fun _ => fun
  | [d1, d2, d3] => { results := [.lit (.bool true)], args := [d1, d2, d3] }
  | _ => none }
def priorityHighestRow : OpenClaim := { program := "ytejidnmgjccidaa", sum := "b6e714d3ae028c776f35fc4555780b35256b959d0a0e159a02d5c3963a2b1946", func := "plenum/plenumlaw13.PriorityHighest", spec := "priorityHighest", apart := false }
def PriorityHighestSaid : Prop := priorityHighestRow.holds Try.pinned (OpenSpec.ofChange priorityHighestSpec)

/-- ITS FALSE NEIGHBOUR: 'it returns false'. Refute it at one input. -/
def priorityHighestWrong : ChangeSpec := { name := "priorityHighest", fn := fun _ => fun
  | [d1, d2, d3] => { results := [.lit (.bool false)], args := [d1, d2, d3] }
  | _ => none }
def PriorityHighestWrongFalsely : Prop := priorityHighestRow.holds Try.pinned (OpenSpec.ofChange priorityHighestWrong)

/-- 'plenumlaw13.PriorityObeys': WHATEVER THE INPUT: true; the input reads as it did. -/
def priorityObeysSpec : ChangeSpec := { name := "priorityObeys", fn := fun _ => fun
  | [d1, d2, d3, d4] => { results := [.lit (.bool true)], args := [d1, d2, d3, d4] }
  | _ => none }
def priorityObeysRow : OpenClaim := { program := "ytejidnmgjccidaa", sum := "b6e714d3ae028c776f35fc4555780b35256b959d0a0e159a02d5c3963a2b1946", func := "plenum/plenumlaw13.PriorityObeys", spec := "priorityObeys", apart := false }
def PriorityObeysSaid : Prop := priorityObeysRow.holds Try.pinned (OpenSpec.ofChange priorityObeysSpec)

/-- ITS FALSE NEIGHBOUR: 'it returns false'. Refute it at one input. -/
def priorityObeysWrong : ChangeSpec := { name := "priorityObeys", fn := fun _ => fun
  | [d1, d2, d3, d4] => { results := [.lit (.bool false)], args := [d1, d2, d3, d4] }
  | _ => none }
def PriorityObeysWrongFalsely : Prop := priorityObeysRow.holds Try.pinned (OpenSpec.ofChange priorityObeysWrong)

/-- 'plenumlaw13.PriorityLate': WHATEVER THE INPUT: true; the input reads as it did. -/
def priorityLateSpec : ChangeSpec := { name := "priorityLate", fn := fun _ => fun
  | [d1, d2] => { results := [.lit (.bool true)], args := [d1, d2] }
  | _ => none }
def priorityLateRow : OpenClaim := { program := "ytejidnmgjccidaa", sum := "b6e714d3ae028c776f35fc4555780b35256b959d0a0e159a02d5c3963a2b1946", func := "plenum/plenumlaw13.PriorityLate", spec := "priorityLate", apart := false }
def PriorityLateSaid : Prop := priorityLateRow.holds Try.pinned (OpenSpec.ofChange priorityLateSpec)

/-- ITS FALSE NEIGHBOUR: 'it returns false'. Refute it at one input. -/
def priorityLateWrong : ChangeSpec := { name := "priorityLate", fn := fun _ => fun
  | [d1, d2] => { results := [.lit (.bool false)], args := [d1, d2] }
  | _ => none }
def PriorityLateWrongFalsely : Prop := priorityLateRow.holds Try.pinned (OpenSpec.ofChange priorityLateWrong)

/- THE SECOND FORM. 'bulk': how many values and letters a reading holds, each counted each time it is reached (what is shared counts as often as it is met; a slice's spare places count too). A statement '..UptoSaid' is the law's where the arguments, and the package variables that the reading takes, are together of bulk at most 1048576: NARROWER than '..Said'. Prove '..Said' where nothing that the law and all that it calls make is longer than what came in: it says more and counts as full. Else prove '..UptoSaid'. A law counts once. -/
mutual
def uptoBulk {H : Type} : DataW H → Nat
  | .lit (.string bytes) => bytes.length + 1
  | .lit _ => 1
  | .nil => 1
  | .ptr d => uptoBulk d + 1
  | .slice elems spare => uptoBulkAll elems + uptoBulkAll spare + 1
  | .agg parts => uptoBulkAll parts + 1
  | .iface _ d => uptoBulk d + 1
  | .map entries => uptoBulkEntries entries + 1
  | .held _ => 1
def uptoBulkAll {H : Type} : List (DataW H) → Nat
  | [] => 0
  | d :: r => uptoBulk d + uptoBulkAll r
def uptoBulkEntries {H : Type} : List (Lit × DataW H) → Nat
  | [] => 0
  | x :: r => uptoBulkEntry x + uptoBulkEntries r
def uptoBulkEntry {H : Type} : Lit × DataW H → Nat
  | (.string bytes, d) => bytes.length + uptoBulk d + 1
  | (_, d) => uptoBulk d + 1
 end
def uptoSmall : (H : Type) → List (DataW H) → Bool := fun _ ds => decide (uptoBulkAll ds ≤ 1048576)
def OpenSpec.upto (s : _root_.Go.ChangeSpec) : _root_.Go.OpenSpec := { _root_.Go.OpenSpec.ofChange s with cond := some uptoSmall }

/-- 'plenumlaw13.PriorityArrays', WHERE WHAT IT READS IS OF BULK AT MOST 1048576: true; the input reads as it did. -/
def priorityArraysUptoRow : OpenClaim := { program := "ytejidnmgjccidaa", sum := "b6e714d3ae028c776f35fc4555780b35256b959d0a0e159a02d5c3963a2b1946", func := "plenum/plenumlaw13.PriorityArrays", spec := "priorityArrays", apart := false, narrowed := true }
def PriorityArraysUptoSaid : Prop := priorityArraysUptoRow.holds Try.pinned (OpenSpec.upto priorityArraysSpec)

/-- 'plenumlaw13.PriorityReads', WHERE WHAT IT READS IS OF BULK AT MOST 1048576: true; the input reads as it did. -/
def priorityReadsUptoRow : OpenClaim := { program := "ytejidnmgjccidaa", sum := "b6e714d3ae028c776f35fc4555780b35256b959d0a0e159a02d5c3963a2b1946", func := "plenum/plenumlaw13.PriorityReads", spec := "priorityReads", apart := false, narrowed := true }
def PriorityReadsUptoSaid : Prop := priorityReadsUptoRow.holds Try.pinned (OpenSpec.upto priorityReadsSpec)

/-- 'plenumlaw13.PriorityPuts', WHERE WHAT IT READS IS OF BULK AT MOST 1048576: true; the input reads as it did. -/
def priorityPutsUptoRow : OpenClaim := { program := "ytejidnmgjccidaa", sum := "b6e714d3ae028c776f35fc4555780b35256b959d0a0e159a02d5c3963a2b1946", func := "plenum/plenumlaw13.PriorityPuts", spec := "priorityPuts", apart := false, narrowed := true }
def PriorityPutsUptoSaid : Prop := priorityPutsUptoRow.holds Try.pinned (OpenSpec.upto priorityPutsSpec)

/-- 'plenumlaw13.PriorityJoins', WHERE WHAT IT READS IS OF BULK AT MOST 1048576: true; the input reads as it did. -/
def priorityJoinsUptoRow : OpenClaim := { program := "ytejidnmgjccidaa", sum := "b6e714d3ae028c776f35fc4555780b35256b959d0a0e159a02d5c3963a2b1946", func := "plenum/plenumlaw13.PriorityJoins", spec := "priorityJoins", apart := false, narrowed := true }
def PriorityJoinsUptoSaid : Prop := priorityJoinsUptoRow.holds Try.pinned (OpenSpec.upto priorityJoinsSpec)

/-- 'plenumlaw13.PriorityHighest', WHERE WHAT IT READS IS OF BULK AT MOST 1048576: true; the input reads as it did. -/
def priorityHighestUptoRow : OpenClaim := { program := "ytejidnmgjccidaa", sum := "b6e714d3ae028c776f35fc4555780b35256b959d0a0e159a02d5c3963a2b1946", func := "plenum/plenumlaw13.PriorityHighest", spec := "priorityHighest", apart := false, narrowed := true }
def PriorityHighestUptoSaid : Prop := priorityHighestUptoRow.holds Try.pinned (OpenSpec.upto priorityHighestSpec)

/-- 'plenumlaw13.PriorityObeys', WHERE WHAT IT READS IS OF BULK AT MOST 1048576: true; the input reads as it did. -/
def priorityObeysUptoRow : OpenClaim := { program := "ytejidnmgjccidaa", sum := "b6e714d3ae028c776f35fc4555780b35256b959d0a0e159a02d5c3963a2b1946", func := "plenum/plenumlaw13.PriorityObeys", spec := "priorityObeys", apart := false, narrowed := true }
def PriorityObeysUptoSaid : Prop := priorityObeysUptoRow.holds Try.pinned (OpenSpec.upto priorityObeysSpec)

/-- 'plenumlaw13.PriorityLate', WHERE WHAT IT READS IS OF BULK AT MOST 1048576: true; the input reads as it did. -/
def priorityLateUptoRow : OpenClaim := { program := "ytejidnmgjccidaa", sum := "b6e714d3ae028c776f35fc4555780b35256b959d0a0e159a02d5c3963a2b1946", func := "plenum/plenumlaw13.PriorityLate", spec := "priorityLate", apart := false, narrowed := true }
def PriorityLateUptoSaid : Prop := priorityLateUptoRow.holds Try.pinned (OpenSpec.upto priorityLateSpec)

end Rows
end Go.Proofs.Ytejidnmgjccidaa
