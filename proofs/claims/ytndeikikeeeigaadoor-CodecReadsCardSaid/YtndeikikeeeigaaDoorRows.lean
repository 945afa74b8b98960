/-
  NARROWER THAN 'FOR EVERY INPUT', by the rows' own cells (each row's printed sentence says how): CodecPrefix: laid · CodecDigest: laid · CodecSkips: laid · CodecWrites: laid · CodecRaw: laid · CodecReads: laid.
  DERIVED. THE GIVEN ROWS OF THIS SEAT. 6 by the template 'for every input the law returns true; each argument reads behind the call as it read before'; 0 by the template 'total and deterministic' (their statements: YtndeikikeeeigaaDoorTotals.lean).
  GIVEN WITH THE SEED: the statements are not yours to turn. If you find one false, say at which input.
  Laid BY PROGRAM, IN A SANDBOX (cutbox-rows.mjs): the forced cells as the released guide's own fill.sh prints them over the translation 00047df77489e64e… (all of the seat's roots in one cut). By AI agents, Wed Nov 11 2026. No macro, syntax, notation, axiom, sorry.
-/
import Derived.Test.YtndeikikeeeigaaDoorChecked
import GoSem.Claim
import GoSem.ClaimJoined
import GoSem.ClaimMapViews
import Derived.JoinedTies
import Derived.KernelRfl
namespace Go.Proofs.YtndeikikeeeigaaDoor
/- THE CELL 'sum', in the pinned program and in every row, IS THE sha256 OF THE DUMP (.gsa) THAT YtndeikikeeeigaaDoorProg.lean LOADS. Nothing in Lean hashes anything: it is a label: what it is worth is what the hold of that sum in a sandbox is worth. -/
noncomputable def Tryd.pinned : Pinned := { name := "ytndeikikeeeigaadoor", sum := "00047df77489e64ea46b8fac9f2f45037e896228b4b301b421b3012c759c3abf", checked := Tryd.checked }
namespace Rows
def none {H : Type} : Left H := { results := [], args := [] }

/- WHAT THE LISTED PACKAGE-LEVEL VARIABLES READ AS WHEN THE CALL BEGINS. Each datum BY PROGRAM (the guide's laid-datum.mjs) off the statement by which the dump's own 'gosem.cut.vars' lays the variable. In a bare row this is a premise. The card (YtndeikikeeeigaaDoorCards.lean) ties it to the program's text. -/
def laid_plenum_codec_kinds {H : Type} : DataW H := .agg [.lit (.int .i64 2), .lit (.int .i64 3), .lit (.int .i64 4), .lit (.int .i64 5), .lit (.int .i64 6)]

/-- 'plenumlaw02.CodecPrefix': WHATEVER THE INPUT: true; the input reads as it did. -/
def codecPrefixSpec : ChangeSpec := { name := "codecPrefix", fn := fun _ => fun
  | [d1, d2] => { results := [.lit (.bool true)], args := [d1, d2] }
  | _ => none }
def codecPrefixRow : OpenClaim := { program := "ytndeikikeeeigaadoor", sum := "00047df77489e64ea46b8fac9f2f45037e896228b4b301b421b3012c759c3abf", func := "plenum/plenumlaw02.CodecPrefix", spec := "codecPrefix", recurses := true, named := ["plenum/codec.kinds"], apart := false, laid := [("plenum/codec.kinds", laid_plenum_codec_kinds)] }
def CodecPrefixSaid : Prop := codecPrefixRow.holds Tryd.pinned (OpenSpec.ofChange codecPrefixSpec)

/-- ITS FALSE NEIGHBOUR: 'it returns false'. Refute it at one input. -/
def codecPrefixWrong : ChangeSpec := { name := "codecPrefix", fn := fun _ => fun
  | [d1, d2] => { results := [.lit (.bool false)], args := [d1, d2] }
  | _ => none }
def CodecPrefixWrongFalsely : Prop := codecPrefixRow.holds Tryd.pinned (OpenSpec.ofChange codecPrefixWrong)

/-- 'plenumlaw02.CodecDigest': WHATEVER THE INPUT: true; the input reads as it did. -/
def codecDigestSpec : ChangeSpec := { name := "codecDigest", fn := fun _ => fun
  | [d1, d2, d3] => { results := [.lit (.bool true)], args := [d1, d2, d3] }
  | _ => none }
def codecDigestRow : OpenClaim := { program := "ytndeikikeeeigaadoor", sum := "00047df77489e64ea46b8fac9f2f45037e896228b4b301b421b3012c759c3abf", func := "plenum/plenumlaw02.CodecDigest", spec := "codecDigest", recurses := true, named := ["plenum/codec.kinds"], apart := false, laid := [("plenum/codec.kinds", laid_plenum_codec_kinds)] }
def CodecDigestSaid : Prop := codecDigestRow.holds Tryd.pinned (OpenSpec.ofChange codecDigestSpec)

/-- ITS FALSE NEIGHBOUR: 'it returns false'. Refute it at one input. -/
def codecDigestWrong : ChangeSpec := { name := "codecDigest", fn := fun _ => fun
  | [d1, d2, d3] => { results := [.lit (.bool false)], args := [d1, d2, d3] }
  | _ => none }
def CodecDigestWrongFalsely : Prop := codecDigestRow.holds Tryd.pinned (OpenSpec.ofChange codecDigestWrong)

/-- 'plenumlaw02.CodecSkips': WHATEVER THE INPUT: true; the input reads as it did. -/
def codecSkipsSpec : ChangeSpec := { name := "codecSkips", fn := fun _ => fun
  | [d1, d2] => { results := [.lit (.bool true)], args := [d1, d2] }
  | _ => none }
def codecSkipsRow : OpenClaim := { program := "ytndeikikeeeigaadoor", sum := "00047df77489e64ea46b8fac9f2f45037e896228b4b301b421b3012c759c3abf", func := "plenum/plenumlaw02.CodecSkips", spec := "codecSkips", recurses := true, named := ["plenum/codec.kinds"], apart := false, laid := [("plenum/codec.kinds", laid_plenum_codec_kinds)] }
def CodecSkipsSaid : Prop := codecSkipsRow.holds Tryd.pinned (OpenSpec.ofChange codecSkipsSpec)

/-- ITS FALSE NEIGHBOUR: 'it returns false'. Refute it at one input. -/
def codecSkipsWrong : ChangeSpec := { name := "codecSkips", fn := fun _ => fun
  | [d1, d2] => { results := [.lit (.bool false)], args := [d1, d2] }
  | _ => none }
def CodecSkipsWrongFalsely : Prop := codecSkipsRow.holds Tryd.pinned (OpenSpec.ofChange codecSkipsWrong)

/-- 'plenumlaw02.CodecWrites': WHATEVER THE INPUT: true; the input reads as it did. -/
def codecWritesSpec : ChangeSpec := { name := "codecWrites", fn := fun _ => fun
  | [d] => { results := [.lit (.bool true)], args := [d] }
  | _ => none }
def codecWritesRow : OpenClaim := { program := "ytndeikikeeeigaadoor", sum := "00047df77489e64ea46b8fac9f2f45037e896228b4b301b421b3012c759c3abf", func := "plenum/plenumlaw02.CodecWrites", spec := "codecWrites", recurses := true, named := ["plenum/codec.kinds"], apart := false, laid := [("plenum/codec.kinds", laid_plenum_codec_kinds)] }
def CodecWritesSaid : Prop := codecWritesRow.holds Tryd.pinned (OpenSpec.ofChange codecWritesSpec)

/-- ITS FALSE NEIGHBOUR: 'it returns false'. Refute it at one input. -/
def codecWritesWrong : ChangeSpec := { name := "codecWrites", fn := fun _ => fun
  | [d] => { results := [.lit (.bool false)], args := [d] }
  | _ => none }
def CodecWritesWrongFalsely : Prop := codecWritesRow.holds Tryd.pinned (OpenSpec.ofChange codecWritesWrong)

/-- 'plenumlaw02.CodecRaw': WHATEVER THE INPUT: true; the input reads as it did. -/
def codecRawSpec : ChangeSpec := { name := "codecRaw", fn := fun _ => fun
  | [d1, d2] => { results := [.lit (.bool true)], args := [d1, d2] }
  | _ => none }
def codecRawRow : OpenClaim := { program := "ytndeikikeeeigaadoor", sum := "00047df77489e64ea46b8fac9f2f45037e896228b4b301b421b3012c759c3abf", func := "plenum/plenumlaw02.CodecRaw", spec := "codecRaw", unfollowed := true, recurses := true, named := ["plenum/codec.kinds"], apart := false, laid := [("plenum/codec.kinds", laid_plenum_codec_kinds)] }
def CodecRawSaid : Prop := codecRawRow.holds Tryd.pinned (OpenSpec.ofChange codecRawSpec)

/-- ITS FALSE NEIGHBOUR: 'it returns false'. Refute it at one input. -/
def codecRawWrong : ChangeSpec := { name := "codecRaw", fn := fun _ => fun
  | [d1, d2] => { results := [.lit (.bool false)], args := [d1, d2] }
  | _ => none }
def CodecRawWrongFalsely : Prop := codecRawRow.holds Tryd.pinned (OpenSpec.ofChange codecRawWrong)

/-- 'plenumlaw02.CodecReads': WHATEVER THE INPUT: true; the input reads as it did. -/
def codecReadsSpec : ChangeSpec := { name := "codecReads", fn := fun _ => fun
  | [d] => { results := [.lit (.bool true)], args := [d] }
  | _ => none }
def codecReadsRow : OpenClaim := { program := "ytndeikikeeeigaadoor", sum := "00047df77489e64ea46b8fac9f2f45037e896228b4b301b421b3012c759c3abf", func := "plenum/plenumlaw02.CodecReads", spec := "codecReads", unfollowed := true, recurses := true, named := ["plenum/codec.kinds"], apart := false, laid := [("plenum/codec.kinds", laid_plenum_codec_kinds)] }
def CodecReadsSaid : Prop := codecReadsRow.holds Tryd.pinned (OpenSpec.ofChange codecReadsSpec)

/-- ITS FALSE NEIGHBOUR: 'it returns false'. Refute it at one input. -/
def codecReadsWrong : ChangeSpec := { name := "codecReads", fn := fun _ => fun
  | [d] => { results := [.lit (.bool false)], args := [d] }
  | _ => none }
def CodecReadsWrongFalsely : Prop := codecReadsRow.holds Tryd.pinned (OpenSpec.ofChange codecReadsWrong)

/- THE SECOND FORM. 'bulk': how many values and letters a reading holds, each counted each time it is reached (what is shared counts as often as it is met; a slice's spare places count too). A statement '..UptoSaid' is the law's where the arguments, and the package variables that the reading takes, are together of bulk at most 1048576: NARROWER than '..Said'. Prove '..Said' where nothing that the law and all that it calls make is longer than what came in: it says more and counts as full. Else prove '..UptoSaid'. A law counts once. -/
mutual
def uptoBulk {H : Type} : DataW H → Nat
  | .lit (.string bytes) => bytes.length + 1
  | .lit _ => 1
  | .nil => 1
  | .ptr d => uptoBulk d + 1
  | .slice elems spare => uptoBulkAll elems + uptoBulkAll spare + 1
  | .agg parts => uptoBulkAll parts + 1
  | .iface _ d => uptoBulk d + 1
  | .map entries => uptoBulkEntries entries + 1
  | .held _ => 1
def uptoBulkAll {H : Type} : List (DataW H) → Nat
  | [] => 0
  | d :: r => uptoBulk d + uptoBulkAll r
def uptoBulkEntries {H : Type} : List (Lit × DataW H) → Nat
  | [] => 0
  | x :: r => uptoBulkEntry x + uptoBulkEntries r
def uptoBulkEntry {H : Type} : Lit × DataW H → Nat
  | (.string bytes, d) => bytes.length + uptoBulk d + 1
  | (_, d) => uptoBulk d + 1
 end
def uptoSmall : (H : Type) → List (DataW H) → Bool := fun _ ds => decide (uptoBulkAll ds ≤ 1048576)
def OpenSpec.upto (s : _root_.Go.ChangeSpec) : _root_.Go.OpenSpec := { _root_.Go.OpenSpec.ofChange s with cond := some uptoSmall }

/-- 'plenumlaw02.CodecPrefix', WHERE WHAT IT READS IS OF BULK AT MOST 1048576: true; the input reads as it did. -/
def codecPrefixUptoRow : OpenClaim := { program := "ytndeikikeeeigaadoor", sum := "00047df77489e64ea46b8fac9f2f45037e896228b4b301b421b3012c759c3abf", func := "plenum/plenumlaw02.CodecPrefix", spec := "codecPrefix", recurses := true, named := ["plenum/codec.kinds"], apart := false, laid := [("plenum/codec.kinds", laid_plenum_codec_kinds)], narrowed := true }
def CodecPrefixUptoSaid : Prop := codecPrefixUptoRow.holds Tryd.pinned (OpenSpec.upto codecPrefixSpec)

/-- 'plenumlaw02.CodecDigest', WHERE WHAT IT READS IS OF BULK AT MOST 1048576: true; the input reads as it did. -/
def codecDigestUptoRow : OpenClaim := { program := "ytndeikikeeeigaadoor", sum := "00047df77489e64ea46b8fac9f2f45037e896228b4b301b421b3012c759c3abf", func := "plenum/plenumlaw02.CodecDigest", spec := "codecDigest", recurses := true, named := ["plenum/codec.kinds"], apart := false, laid := [("plenum/codec.kinds", laid_plenum_codec_kinds)], narrowed := true }
def CodecDigestUptoSaid : Prop := codecDigestUptoRow.holds Tryd.pinned (OpenSpec.upto codecDigestSpec)

/-- 'plenumlaw02.CodecSkips', WHERE WHAT IT READS IS OF BULK AT MOST 1048576: true; the input reads as it did. -/
def codecSkipsUptoRow : OpenClaim := { program := "ytndeikikeeeigaadoor", sum := "00047df77489e64ea46b8fac9f2f45037e896228b4b301b421b3012c759c3abf", func := "plenum/plenumlaw02.CodecSkips", spec := "codecSkips", recurses := true, named := ["plenum/codec.kinds"], apart := false, laid := [("plenum/codec.kinds", laid_plenum_codec_kinds)], narrowed := true }
def CodecSkipsUptoSaid : Prop := codecSkipsUptoRow.holds Tryd.pinned (OpenSpec.upto codecSkipsSpec)

/-- 'plenumlaw02.CodecWrites', WHERE WHAT IT READS IS OF BULK AT MOST 1048576: true; the input reads as it did. -/
def codecWritesUptoRow : OpenClaim := { program := "ytndeikikeeeigaadoor", sum := "00047df77489e64ea46b8fac9f2f45037e896228b4b301b421b3012c759c3abf", func := "plenum/plenumlaw02.CodecWrites", spec := "codecWrites", recurses := true, named := ["plenum/codec.kinds"], apart := false, laid := [("plenum/codec.kinds", laid_plenum_codec_kinds)], narrowed := true }
def CodecWritesUptoSaid : Prop := codecWritesUptoRow.holds Tryd.pinned (OpenSpec.upto codecWritesSpec)

/-- 'plenumlaw02.CodecRaw', WHERE WHAT IT READS IS OF BULK AT MOST 1048576: true; the input reads as it did. -/
def codecRawUptoRow : OpenClaim := { program := "ytndeikikeeeigaadoor", sum := "00047df77489e64ea46b8fac9f2f45037e896228b4b301b421b3012c759c3abf", func := "plenum/plenumlaw02.CodecRaw", spec := "codecRaw", unfollowed := true, recurses := true, named := ["plenum/codec.kinds"], apart := false, laid := [("plenum/codec.kinds", laid_plenum_codec_kinds)], narrowed := true }
def CodecRawUptoSaid : Prop := codecRawUptoRow.holds Tryd.pinned (OpenSpec.upto codecRawSpec)

/-- 'plenumlaw02.CodecReads', WHERE WHAT IT READS IS OF BULK AT MOST 1048576: true; the input reads as it did. -/
def codecReadsUptoRow : OpenClaim := { program := "ytndeikikeeeigaadoor", sum := "00047df77489e64ea46b8fac9f2f45037e896228b4b301b421b3012c759c3abf", func := "plenum/plenumlaw02.CodecReads", spec := "codecReads", unfollowed := true, recurses := true, named := ["plenum/codec.kinds"], apart := false, laid := [("plenum/codec.kinds", laid_plenum_codec_kinds)], narrowed := true }
def CodecReadsUptoSaid : Prop := codecReadsUptoRow.holds Tryd.pinned (OpenSpec.upto codecReadsSpec)

end Rows
end Go.Proofs.YtndeikikeeeigaaDoor
