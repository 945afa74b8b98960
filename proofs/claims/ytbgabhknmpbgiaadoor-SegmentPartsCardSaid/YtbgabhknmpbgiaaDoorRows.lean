/-
  NARROWER THAN 'FOR EVERY INPUT', by the rows' own cells (each row's printed sentence says how): SegmentParts: laid · SegmentSplits: laid · SegmentSends: laid · SegmentReceives: laid · SegmentSafe: laid · SegmentCalm: laid · SegmentGives: laid.
  DERIVED. THE GIVEN ROWS OF THIS SEAT. 7 by the template 'for every input the law returns true; each argument reads behind the call as it read before'; 0 by the template 'total and deterministic' (their statements: YtbgabhknmpbgiaaDoorTotals.lean).
  GIVEN WITH THE SEED: the statements are not yours to turn. If you find one false, say at which input.
  Laid BY PROGRAM, IN A SANDBOX (cutbox-rows.mjs): the forced cells as the released guide's own fill.sh prints them over the translation 9249136f4e1d5235… (all of the seat's roots in one cut). By AI agents, Wed Nov 11 2026. No macro, syntax, notation, axiom, sorry.
-/
import Derived.Test.YtbgabhknmpbgiaaDoorChecked
import GoSem.Claim
import GoSem.ClaimJoined
import GoSem.ClaimMapViews
import Derived.JoinedTies
import Derived.KernelRfl
namespace Go.Proofs.YtbgabhknmpbgiaaDoor
/- THE CELL 'sum', in the pinned program and in every row, IS THE sha256 OF THE DUMP (.gsa) THAT YtbgabhknmpbgiaaDoorProg.lean LOADS. Nothing in Lean hashes anything: it is a label: what it is worth is what the hold of that sum in a sandbox is worth. -/
noncomputable def Tryd.pinned : Pinned := { name := "ytbgabhknmpbgiaadoor", sum := "9249136f4e1d523584e2ffe151bf67d276c75a8abac0d480fcfe80f47874f680", checked := Tryd.checked }
namespace Rows
def none {H : Type} : Left H := { results := [], args := [] }

/- WHAT THE LISTED PACKAGE-LEVEL VARIABLES READ AS WHEN THE CALL BEGINS. Each datum BY PROGRAM (the guide's laid-datum.mjs) off the statement by which the dump's own 'gosem.cut.vars' lays the variable. In a bare row this is a premise. The card (YtbgabhknmpbgiaaDoorCards.lean) ties it to the program's text. -/
def laid_plenum_codec_kinds {H : Type} : DataW H := .agg [.lit (.int .i64 2), .lit (.int .i64 3), .lit (.int .i64 4), .lit (.int .i64 5), .lit (.int .i64 6)]

/-- 'plenumlaw49.SegmentParts': WHATEVER THE INPUT: true; the input reads as it did. -/
def segmentPartsSpec : ChangeSpec := { name := "segmentParts", fn := fun _ => fun
  | [d1, d2] => { results := [.lit (.bool true)], args := [d1, d2] }
  | _ => none }
def segmentPartsRow : OpenClaim := { program := "ytbgabhknmpbgiaadoor", sum := "9249136f4e1d523584e2ffe151bf67d276c75a8abac0d480fcfe80f47874f680", func := "plenum/plenumlaw49.SegmentParts", spec := "segmentParts", unfollowed := true, recurses := true, named := ["plenum/codec.kinds"], apart := false, laid := [("plenum/codec.kinds", laid_plenum_codec_kinds)] }
def SegmentPartsSaid : Prop := segmentPartsRow.holds Tryd.pinned (OpenSpec.ofChange segmentPartsSpec)

/-- ITS FALSE NEIGHBOUR: 'it returns false'. Refute it at one input. -/
def segmentPartsWrong : ChangeSpec := { name := "segmentParts", fn := fun _ => fun
  | [d1, d2] => { results := [.lit (.bool false)], args := [d1, d2] }
  | _ => none }
def SegmentPartsWrongFalsely : Prop := segmentPartsRow.holds Tryd.pinned (OpenSpec.ofChange segmentPartsWrong)

/-- 'plenumlaw49.SegmentSplits': WHATEVER THE INPUT: true; the input reads as it did. -/
def segmentSplitsSpec : ChangeSpec := { name := "segmentSplits", fn := fun _ => fun
  | [d1, d2] => { results := [.lit (.bool true)], args := [d1, d2] }
  | _ => none }
def segmentSplitsRow : OpenClaim := { program := "ytbgabhknmpbgiaadoor", sum := "9249136f4e1d523584e2ffe151bf67d276c75a8abac0d480fcfe80f47874f680", func := "plenum/plenumlaw49.SegmentSplits", spec := "segmentSplits", unfollowed := true, recurses := true, named := ["plenum/codec.kinds"], apart := false, laid := [("plenum/codec.kinds", laid_plenum_codec_kinds)] }
def SegmentSplitsSaid : Prop := segmentSplitsRow.holds Tryd.pinned (OpenSpec.ofChange segmentSplitsSpec)

/-- ITS FALSE NEIGHBOUR: 'it returns false'. Refute it at one input. -/
def segmentSplitsWrong : ChangeSpec := { name := "segmentSplits", fn := fun _ => fun
  | [d1, d2] => { results := [.lit (.bool false)], args := [d1, d2] }
  | _ => none }
def SegmentSplitsWrongFalsely : Prop := segmentSplitsRow.holds Tryd.pinned (OpenSpec.ofChange segmentSplitsWrong)

/-- 'plenumlaw49.SegmentSends': WHATEVER THE INPUT: true; the input reads as it did. -/
def segmentSendsSpec : ChangeSpec := { name := "segmentSends", fn := fun _ => fun
  | [d1, d2, d3, d4, d5, d6, d7, d8] => { results := [.lit (.bool true)], args := [d1, d2, d3, d4, d5, d6, d7, d8] }
  | _ => none }
def segmentSendsRow : OpenClaim := { program := "ytbgabhknmpbgiaadoor", sum := "9249136f4e1d523584e2ffe151bf67d276c75a8abac0d480fcfe80f47874f680", func := "plenum/plenumlaw49.SegmentSends", spec := "segmentSends", unfollowed := true, recurses := true, named := ["plenum/codec.kinds"], apart := false, laid := [("plenum/codec.kinds", laid_plenum_codec_kinds)] }
def SegmentSendsSaid : Prop := segmentSendsRow.holds Tryd.pinned (OpenSpec.ofChange segmentSendsSpec)

/-- ITS FALSE NEIGHBOUR: 'it returns false'. Refute it at one input. -/
def segmentSendsWrong : ChangeSpec := { name := "segmentSends", fn := fun _ => fun
  | [d1, d2, d3, d4, d5, d6, d7, d8] => { results := [.lit (.bool false)], args := [d1, d2, d3, d4, d5, d6, d7, d8] }
  | _ => none }
def SegmentSendsWrongFalsely : Prop := segmentSendsRow.holds Tryd.pinned (OpenSpec.ofChange segmentSendsWrong)

/-- 'plenumlaw49.SegmentReceives': WHATEVER THE INPUT: true; the input reads as it did. -/
def segmentReceivesSpec : ChangeSpec := { name := "segmentReceives", fn := fun _ => fun
  | [d1, d2, d3, d4] => { results := [.lit (.bool true)], args := [d1, d2, d3, d4] }
  | _ => none }
def segmentReceivesRow : OpenClaim := { program := "ytbgabhknmpbgiaadoor", sum := "9249136f4e1d523584e2ffe151bf67d276c75a8abac0d480fcfe80f47874f680", func := "plenum/plenumlaw49.SegmentReceives", spec := "segmentReceives", unfollowed := true, recurses := true, named := ["plenum/codec.kinds"], apart := false, laid := [("plenum/codec.kinds", laid_plenum_codec_kinds)] }
def SegmentReceivesSaid : Prop := segmentReceivesRow.holds Tryd.pinned (OpenSpec.ofChange segmentReceivesSpec)

/-- ITS FALSE NEIGHBOUR: 'it returns false'. Refute it at one input. -/
def segmentReceivesWrong : ChangeSpec := { name := "segmentReceives", fn := fun _ => fun
  | [d1, d2, d3, d4] => { results := [.lit (.bool false)], args := [d1, d2, d3, d4] }
  | _ => none }
def SegmentReceivesWrongFalsely : Prop := segmentReceivesRow.holds Tryd.pinned (OpenSpec.ofChange segmentReceivesWrong)

/-- 'plenumlaw49.SegmentSafe': WHATEVER THE INPUT: true; the input reads as it did. -/
def segmentSafeSpec : ChangeSpec := { name := "segmentSafe", fn := fun _ => fun
  | [d1, d2, d3, d4] => { results := [.lit (.bool true)], args := [d1, d2, d3, d4] }
  | _ => none }
def segmentSafeRow : OpenClaim := { program := "ytbgabhknmpbgiaadoor", sum := "9249136f4e1d523584e2ffe151bf67d276c75a8abac0d480fcfe80f47874f680", func := "plenum/plenumlaw49.SegmentSafe", spec := "segmentSafe", unfollowed := true, recurses := true, named := ["plenum/codec.kinds"], apart := false, laid := [("plenum/codec.kinds", laid_plenum_codec_kinds)] }
def SegmentSafeSaid : Prop := segmentSafeRow.holds Tryd.pinned (OpenSpec.ofChange segmentSafeSpec)

/-- ITS FALSE NEIGHBOUR: 'it returns false'. Refute it at one input. -/
def segmentSafeWrong : ChangeSpec := { name := "segmentSafe", fn := fun _ => fun
  | [d1, d2, d3, d4] => { results := [.lit (.bool false)], args := [d1, d2, d3, d4] }
  | _ => none }
def SegmentSafeWrongFalsely : Prop := segmentSafeRow.holds Tryd.pinned (OpenSpec.ofChange segmentSafeWrong)

/-- 'plenumlaw49.SegmentCalm': WHATEVER THE INPUT: true; the input reads as it did. -/
def segmentCalmSpec : ChangeSpec := { name := "segmentCalm", fn := fun _ => fun
  | [d1, d2, d3] => { results := [.lit (.bool true)], args := [d1, d2, d3] }
  | _ => none }
def segmentCalmRow : OpenClaim := { program := "ytbgabhknmpbgiaadoor", sum := "9249136f4e1d523584e2ffe151bf67d276c75a8abac0d480fcfe80f47874f680", func := "plenum/plenumlaw49.SegmentCalm", spec := "segmentCalm", unfollowed := true, recurses := true, named := ["plenum/codec.kinds"], apart := false, laid := [("plenum/codec.kinds", laid_plenum_codec_kinds)] }
def SegmentCalmSaid : Prop := segmentCalmRow.holds Tryd.pinned (OpenSpec.ofChange segmentCalmSpec)

/-- ITS FALSE NEIGHBOUR: 'it returns false'. Refute it at one input. -/
def segmentCalmWrong : ChangeSpec := { name := "segmentCalm", fn := fun _ => fun
  | [d1, d2, d3] => { results := [.lit (.bool false)], args := [d1, d2, d3] }
  | _ => none }
def SegmentCalmWrongFalsely : Prop := segmentCalmRow.holds Tryd.pinned (OpenSpec.ofChange segmentCalmWrong)

/-- 'plenumlaw49.SegmentGives': WHATEVER THE INPUT: true; the input reads as it did. -/
def segmentGivesSpec : ChangeSpec := { name := "segmentGives", fn := fun _ => fun
  | [d1, d2, d3, d4, d5, d6] => { results := [.lit (.bool true)], args := [d1, d2, d3, d4, d5, d6] }
  | _ => none }
def segmentGivesRow : OpenClaim := { program := "ytbgabhknmpbgiaadoor", sum := "9249136f4e1d523584e2ffe151bf67d276c75a8abac0d480fcfe80f47874f680", func := "plenum/plenumlaw49.SegmentGives", spec := "segmentGives", unfollowed := true, recurses := true, named := ["plenum/codec.kinds"], apart := false, laid := [("plenum/codec.kinds", laid_plenum_codec_kinds)] }
def SegmentGivesSaid : Prop := segmentGivesRow.holds Tryd.pinned (OpenSpec.ofChange segmentGivesSpec)

/-- ITS FALSE NEIGHBOUR: 'it returns false'. Refute it at one input. -/
def segmentGivesWrong : ChangeSpec := { name := "segmentGives", fn := fun _ => fun
  | [d1, d2, d3, d4, d5, d6] => { results := [.lit (.bool false)], args := [d1, d2, d3, d4, d5, d6] }
  | _ => none }
def SegmentGivesWrongFalsely : Prop := segmentGivesRow.holds Tryd.pinned (OpenSpec.ofChange segmentGivesWrong)

/- THE SECOND FORM. 'bulk': how many values and letters a reading holds, each counted each time it is reached (what is shared counts as often as it is met; a slice's spare places count too). A statement '..UptoSaid' is the law's where the arguments, and the package variables that the reading takes, are together of bulk at most 1048576: NARROWER than '..Said'. Prove '..Said' where nothing that the law and all that it calls make is longer than what came in: it says more and counts as full. Else prove '..UptoSaid'. A law counts once. -/
mutual
def uptoBulk {H : Type} : DataW H → Nat
  | .lit (.string bytes) => bytes.length + 1
  | .lit _ => 1
  | .nil => 1
  | .ptr d => uptoBulk d + 1
  | .slice elems spare => uptoBulkAll elems + uptoBulkAll spare + 1
  | .agg parts => uptoBulkAll parts + 1
  | .iface _ d => uptoBulk d + 1
  | .map entries => uptoBulkEntries entries + 1
  | .held _ => 1
def uptoBulkAll {H : Type} : List (DataW H) → Nat
  | [] => 0
  | d :: r => uptoBulk d + uptoBulkAll r
def uptoBulkEntries {H : Type} : List (Lit × DataW H) → Nat
  | [] => 0
  | x :: r => uptoBulkEntry x + uptoBulkEntries r
def uptoBulkEntry {H : Type} : Lit × DataW H → Nat
  | (.string bytes, d) => bytes.length + uptoBulk d + 1
  | (_, d) => uptoBulk d + 1
 end
def uptoSmall : (H : Type) → List (DataW H) → Bool := fun _ ds => decide (uptoBulkAll ds ≤ 1048576)
def OpenSpec.upto (s : _root_.Go.ChangeSpec) : _root_.Go.OpenSpec := { _root_.Go.OpenSpec.ofChange s with cond := some uptoSmall }

/-- 'plenumlaw49.SegmentParts', WHERE WHAT IT READS IS OF BULK AT MOST 1048576: true; the input reads as it did. -/
def segmentPartsUptoRow : OpenClaim := { program := "ytbgabhknmpbgiaadoor", sum := "9249136f4e1d523584e2ffe151bf67d276c75a8abac0d480fcfe80f47874f680", func := "plenum/plenumlaw49.SegmentParts", spec := "segmentParts", unfollowed := true, recurses := true, named := ["plenum/codec.kinds"], apart := false, laid := [("plenum/codec.kinds", laid_plenum_codec_kinds)], narrowed := true }
def SegmentPartsUptoSaid : Prop := segmentPartsUptoRow.holds Tryd.pinned (OpenSpec.upto segmentPartsSpec)

/-- 'plenumlaw49.SegmentSplits', WHERE WHAT IT READS IS OF BULK AT MOST 1048576: true; the input reads as it did. -/
def segmentSplitsUptoRow : OpenClaim := { program := "ytbgabhknmpbgiaadoor", sum := "9249136f4e1d523584e2ffe151bf67d276c75a8abac0d480fcfe80f47874f680", func := "plenum/plenumlaw49.SegmentSplits", spec := "segmentSplits", unfollowed := true, recurses := true, named := ["plenum/codec.kinds"], apart := false, laid := [("plenum/codec.kinds", laid_plenum_codec_kinds)], narrowed := true }
def SegmentSplitsUptoSaid : Prop := segmentSplitsUptoRow.holds Tryd.pinned (OpenSpec.upto segmentSplitsSpec)

/-- 'plenumlaw49.SegmentSends', WHERE WHAT IT READS IS OF BULK AT MOST 1048576: true; the input reads as it did. -/
def segmentSendsUptoRow : OpenClaim := { program := "ytbgabhknmpbgiaadoor", sum := "9249136f4e1d523584e2ffe151bf67d276c75a8abac0d480fcfe80f47874f680", func := "plenum/plenumlaw49.SegmentSends", spec := "segmentSends", unfollowed := true, recurses := true, named := ["plenum/codec.kinds"], apart := false, laid := [("plenum/codec.kinds", laid_plenum_codec_kinds)], narrowed := true }
def SegmentSendsUptoSaid : Prop := segmentSendsUptoRow.holds Tryd.pinned (OpenSpec.upto segmentSendsSpec)

/-- 'plenumlaw49.SegmentReceives', WHERE WHAT IT READS IS OF BULK AT MOST 1048576: true; the input reads as it did. -/
def segmentReceivesUptoRow : OpenClaim := { program := "ytbgabhknmpbgiaadoor", sum := "9249136f4e1d523584e2ffe151bf67d276c75a8abac0d480fcfe80f47874f680", func := "plenum/plenumlaw49.SegmentReceives", spec := "segmentReceives", unfollowed := true, recurses := true, named := ["plenum/codec.kinds"], apart := false, laid := [("plenum/codec.kinds", laid_plenum_codec_kinds)], narrowed := true }
def SegmentReceivesUptoSaid : Prop := segmentReceivesUptoRow.holds Tryd.pinned (OpenSpec.upto segmentReceivesSpec)

/-- 'plenumlaw49.SegmentSafe', WHERE WHAT IT READS IS OF BULK AT MOST 1048576: true; the input reads as it did. -/
def segmentSafeUptoRow : OpenClaim := { program := "ytbgabhknmpbgiaadoor", sum := "9249136f4e1d523584e2ffe151bf67d276c75a8abac0d480fcfe80f47874f680", func := "plenum/plenumlaw49.SegmentSafe", spec := "segmentSafe", unfollowed := true, recurses := true, named := ["plenum/codec.kinds"], apart := false, laid := [("plenum/codec.kinds", laid_plenum_codec_kinds)], narrowed := true }
def SegmentSafeUptoSaid : Prop := segmentSafeUptoRow.holds Tryd.pinned (OpenSpec.upto segmentSafeSpec)

/-- 'plenumlaw49.SegmentCalm', WHERE WHAT IT READS IS OF BULK AT MOST 1048576: true; the input reads as it did. -/
def segmentCalmUptoRow : OpenClaim := { program := "ytbgabhknmpbgiaadoor", sum := "9249136f4e1d523584e2ffe151bf67d276c75a8abac0d480fcfe80f47874f680", func := "plenum/plenumlaw49.SegmentCalm", spec := "segmentCalm", unfollowed := true, recurses := true, named := ["plenum/codec.kinds"], apart := false, laid := [("plenum/codec.kinds", laid_plenum_codec_kinds)], narrowed := true }
def SegmentCalmUptoSaid : Prop := segmentCalmUptoRow.holds Tryd.pinned (OpenSpec.upto segmentCalmSpec)

/-- 'plenumlaw49.SegmentGives', WHERE WHAT IT READS IS OF BULK AT MOST 1048576: true; the input reads as it did. -/
def segmentGivesUptoRow : OpenClaim := { program := "ytbgabhknmpbgiaadoor", sum := "9249136f4e1d523584e2ffe151bf67d276c75a8abac0d480fcfe80f47874f680", func := "plenum/plenumlaw49.SegmentGives", spec := "segmentGives", unfollowed := true, recurses := true, named := ["plenum/codec.kinds"], apart := false, laid := [("plenum/codec.kinds", laid_plenum_codec_kinds)], narrowed := true }
def SegmentGivesUptoSaid : Prop := segmentGivesUptoRow.holds Tryd.pinned (OpenSpec.upto segmentGivesSpec)

end Rows
end Go.Proofs.YtbgabhknmpbgiaaDoor
