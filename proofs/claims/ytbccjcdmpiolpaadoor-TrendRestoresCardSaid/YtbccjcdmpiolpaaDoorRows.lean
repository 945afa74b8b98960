/-
  NARROWER THAN 'FOR EVERY INPUT', by the rows' own cells (each row's printed sentence says how): TrendReader: laid · TrendEvery: laid · TrendRules: laid · TrendRestores: laid · TrendRing: laid.
  DERIVED. THE GIVEN ROWS OF THIS SEAT. 5 by the template 'for every input the law returns true; each argument reads behind the call as it read before'; 0 by the template 'total and deterministic' (their statements: YtbccjcdmpiolpaaDoorTotals.lean).
  GIVEN WITH THE SEED: the statements are not yours to turn. If you find one false, say at which input.
  Laid BY PROGRAM, IN A SANDBOX (cutbox-rows.mjs): the forced cells as the released guide's own fill.sh prints them over the translation 82cfa6f779dd3053… (all of the seat's roots in one cut). By AI agents, Wed Nov 11 2026. No macro, syntax, notation, axiom, sorry.
-/
import Derived.Test.YtbccjcdmpiolpaaDoorChecked
import GoSem.Claim
import GoSem.ClaimJoined
import GoSem.ClaimMapViews
import Derived.JoinedTies
import Derived.KernelRfl
namespace Go.Proofs.YtbccjcdmpiolpaaDoor
/- THE CELL 'sum', in the pinned program and in every row, IS THE sha256 OF THE DUMP (.gsa) THAT YtbccjcdmpiolpaaDoorProg.lean LOADS. Nothing in Lean hashes anything: it is a label: what it is worth is what the hold of that sum in a sandbox is worth. -/
noncomputable def Tryd.pinned : Pinned := { name := "ytbccjcdmpiolpaadoor", sum := "82cfa6f779dd3053b904f10343bd86753a57a1f36a34daed4d88f2fff29db483", checked := Tryd.checked }
namespace Rows
def none {H : Type} : Left H := { results := [], args := [] }

/- WHAT THE LISTED PACKAGE-LEVEL VARIABLES READ AS WHEN THE CALL BEGINS. Each datum BY PROGRAM (the guide's laid-datum.mjs) off the statement by which the dump's own 'gosem.cut.vars' lays the variable. In a bare row this is a premise. The card (YtbccjcdmpiolpaaDoorCards.lean) ties it to the program's text. -/
def laid_plenum_codec_kinds {H : Type} : DataW H := .agg [.lit (.int .i64 2), .lit (.int .i64 3), .lit (.int .i64 4), .lit (.int .i64 5), .lit (.int .i64 6)]

/-- 'plenumlaw41.TrendReader': WHATEVER THE INPUT: true; the input reads as it did. -/
def trendReaderSpec : ChangeSpec := { name := "trendReader", fn := fun _ => fun
  | [d1, d2, d3, d4, d5, d6] => { results := [.lit (.bool true)], args := [d1, d2, d3, d4, d5, d6] }
  | _ => none }
def trendReaderRow : OpenClaim := { program := "ytbccjcdmpiolpaadoor", sum := "82cfa6f779dd3053b904f10343bd86753a57a1f36a34daed4d88f2fff29db483", func := "plenum/plenumlaw41.TrendReader", spec := "trendReader", unfollowed := true, recurses := true, named := ["plenum/codec.kinds"], apart := false, laid := [("plenum/codec.kinds", laid_plenum_codec_kinds)] }
def TrendReaderSaid : Prop := trendReaderRow.holds Tryd.pinned (OpenSpec.ofChange trendReaderSpec)

/-- ITS FALSE NEIGHBOUR: 'it returns false'. Refute it at one input. -/
def trendReaderWrong : ChangeSpec := { name := "trendReader", fn := fun _ => fun
  | [d1, d2, d3, d4, d5, d6] => { results := [.lit (.bool false)], args := [d1, d2, d3, d4, d5, d6] }
  | _ => none }
def TrendReaderWrongFalsely : Prop := trendReaderRow.holds Tryd.pinned (OpenSpec.ofChange trendReaderWrong)

/-- 'plenumlaw41.TrendEvery': WHATEVER THE INPUT: true; the input reads as it did. -/
def trendEverySpec : ChangeSpec := { name := "trendEvery", fn := fun _ => fun
  | [d1, d2, d3, d4, d5] => { results := [.lit (.bool true)], args := [d1, d2, d3, d4, d5] }
  | _ => none }
def trendEveryRow : OpenClaim := { program := "ytbccjcdmpiolpaadoor", sum := "82cfa6f779dd3053b904f10343bd86753a57a1f36a34daed4d88f2fff29db483", func := "plenum/plenumlaw41.TrendEvery", spec := "trendEvery", unfollowed := true, recurses := true, named := ["plenum/codec.kinds"], apart := false, laid := [("plenum/codec.kinds", laid_plenum_codec_kinds)] }
def TrendEverySaid : Prop := trendEveryRow.holds Tryd.pinned (OpenSpec.ofChange trendEverySpec)

/-- ITS FALSE NEIGHBOUR: 'it returns false'. Refute it at one input. -/
def trendEveryWrong : ChangeSpec := { name := "trendEvery", fn := fun _ => fun
  | [d1, d2, d3, d4, d5] => { results := [.lit (.bool false)], args := [d1, d2, d3, d4, d5] }
  | _ => none }
def TrendEveryWrongFalsely : Prop := trendEveryRow.holds Tryd.pinned (OpenSpec.ofChange trendEveryWrong)

/-- 'plenumlaw41.TrendRules': WHATEVER THE INPUT: true; the input reads as it did. -/
def trendRulesSpec : ChangeSpec := { name := "trendRules", fn := fun _ => fun
  | [d1, d2] => { results := [.lit (.bool true)], args := [d1, d2] }
  | _ => none }
def trendRulesRow : OpenClaim := { program := "ytbccjcdmpiolpaadoor", sum := "82cfa6f779dd3053b904f10343bd86753a57a1f36a34daed4d88f2fff29db483", func := "plenum/plenumlaw41.TrendRules", spec := "trendRules", unfollowed := true, recurses := true, named := ["plenum/codec.kinds"], apart := false, laid := [("plenum/codec.kinds", laid_plenum_codec_kinds)] }
def TrendRulesSaid : Prop := trendRulesRow.holds Tryd.pinned (OpenSpec.ofChange trendRulesSpec)

/-- ITS FALSE NEIGHBOUR: 'it returns false'. Refute it at one input. -/
def trendRulesWrong : ChangeSpec := { name := "trendRules", fn := fun _ => fun
  | [d1, d2] => { results := [.lit (.bool false)], args := [d1, d2] }
  | _ => none }
def TrendRulesWrongFalsely : Prop := trendRulesRow.holds Tryd.pinned (OpenSpec.ofChange trendRulesWrong)

/-- 'plenumlaw41.TrendRestores': WHATEVER THE INPUT: true; the input reads as it did. -/
def trendRestoresSpec : ChangeSpec := { name := "trendRestores", fn := fun _ => fun
  | [d1, d2, d3] => { results := [.lit (.bool true)], args := [d1, d2, d3] }
  | _ => none }
def trendRestoresRow : OpenClaim := { program := "ytbccjcdmpiolpaadoor", sum := "82cfa6f779dd3053b904f10343bd86753a57a1f36a34daed4d88f2fff29db483", func := "plenum/plenumlaw41.TrendRestores", spec := "trendRestores", unfollowed := true, recurses := true, named := ["plenum/codec.kinds"], apart := false, laid := [("plenum/codec.kinds", laid_plenum_codec_kinds)] }
def TrendRestoresSaid : Prop := trendRestoresRow.holds Tryd.pinned (OpenSpec.ofChange trendRestoresSpec)

/-- ITS FALSE NEIGHBOUR: 'it returns false'. Refute it at one input. -/
def trendRestoresWrong : ChangeSpec := { name := "trendRestores", fn := fun _ => fun
  | [d1, d2, d3] => { results := [.lit (.bool false)], args := [d1, d2, d3] }
  | _ => none }
def TrendRestoresWrongFalsely : Prop := trendRestoresRow.holds Tryd.pinned (OpenSpec.ofChange trendRestoresWrong)

/-- 'plenumlaw41.TrendRing': WHATEVER THE INPUT: true; the input reads as it did. -/
def trendRingSpec : ChangeSpec := { name := "trendRing", fn := fun _ => fun
  | [d1, d2, d3, d4] => { results := [.lit (.bool true)], args := [d1, d2, d3, d4] }
  | _ => none }
def trendRingRow : OpenClaim := { program := "ytbccjcdmpiolpaadoor", sum := "82cfa6f779dd3053b904f10343bd86753a57a1f36a34daed4d88f2fff29db483", func := "plenum/plenumlaw41.TrendRing", spec := "trendRing", unfollowed := true, recurses := true, named := ["plenum/codec.kinds"], apart := false, laid := [("plenum/codec.kinds", laid_plenum_codec_kinds)] }
def TrendRingSaid : Prop := trendRingRow.holds Tryd.pinned (OpenSpec.ofChange trendRingSpec)

/-- ITS FALSE NEIGHBOUR: 'it returns false'. Refute it at one input. -/
def trendRingWrong : ChangeSpec := { name := "trendRing", fn := fun _ => fun
  | [d1, d2, d3, d4] => { results := [.lit (.bool false)], args := [d1, d2, d3, d4] }
  | _ => none }
def TrendRingWrongFalsely : Prop := trendRingRow.holds Tryd.pinned (OpenSpec.ofChange trendRingWrong)

/- THE SECOND FORM. 'bulk': how many values and letters a reading holds, each counted each time it is reached (what is shared counts as often as it is met; a slice's spare places count too). A statement '..UptoSaid' is the law's where the arguments, and the package variables that the reading takes, are together of bulk at most 1048576: NARROWER than '..Said'. Prove '..Said' where nothing that the law and all that it calls make is longer than what came in: it says more and counts as full. Else prove '..UptoSaid'. A law counts once. -/
mutual
def uptoBulk {H : Type} : DataW H → Nat
  | .lit (.string bytes) => bytes.length + 1
  | .lit _ => 1
  | .nil => 1
  | .ptr d => uptoBulk d + 1
  | .slice elems spare => uptoBulkAll elems + uptoBulkAll spare + 1
  | .agg parts => uptoBulkAll parts + 1
  | .iface _ d => uptoBulk d + 1
  | .map entries => uptoBulkEntries entries + 1
  | .held _ => 1
def uptoBulkAll {H : Type} : List (DataW H) → Nat
  | [] => 0
  | d :: r => uptoBulk d + uptoBulkAll r
def uptoBulkEntries {H : Type} : List (Lit × DataW H) → Nat
  | [] => 0
  | x :: r => uptoBulkEntry x + uptoBulkEntries r
def uptoBulkEntry {H : Type} : Lit × DataW H → Nat
  | (.string bytes, d) => bytes.length + uptoBulk d + 1
  | (_, d) => uptoBulk d + 1
 end
def uptoSmall : (H : Type) → List (DataW H) → Bool := fun _ ds => decide (uptoBulkAll ds ≤ 1048576)
def OpenSpec.upto (s : _root_.Go.ChangeSpec) : _root_.Go.OpenSpec := { _root_.Go.OpenSpec.ofChange s with cond := some uptoSmall }

/-- 'plenumlaw41.TrendReader', WHERE WHAT IT READS IS OF BULK AT MOST 1048576: true; the input reads as it did. -/
def trendReaderUptoRow : OpenClaim := { program := "ytbccjcdmpiolpaadoor", sum := "82cfa6f779dd3053b904f10343bd86753a57a1f36a34daed4d88f2fff29db483", func := "plenum/plenumlaw41.TrendReader", spec := "trendReader", unfollowed := true, recurses := true, named := ["plenum/codec.kinds"], apart := false, laid := [("plenum/codec.kinds", laid_plenum_codec_kinds)], narrowed := true }
def TrendReaderUptoSaid : Prop := trendReaderUptoRow.holds Tryd.pinned (OpenSpec.upto trendReaderSpec)

/-- 'plenumlaw41.TrendEvery', WHERE WHAT IT READS IS OF BULK AT MOST 1048576: true; the input reads as it did. -/
def trendEveryUptoRow : OpenClaim := { program := "ytbccjcdmpiolpaadoor", sum := "82cfa6f779dd3053b904f10343bd86753a57a1f36a34daed4d88f2fff29db483", func := "plenum/plenumlaw41.TrendEvery", spec := "trendEvery", unfollowed := true, recurses := true, named := ["plenum/codec.kinds"], apart := false, laid := [("plenum/codec.kinds", laid_plenum_codec_kinds)], narrowed := true }
def TrendEveryUptoSaid : Prop := trendEveryUptoRow.holds Tryd.pinned (OpenSpec.upto trendEverySpec)

/-- 'plenumlaw41.TrendRules', WHERE WHAT IT READS IS OF BULK AT MOST 1048576: true; the input reads as it did. -/
def trendRulesUptoRow : OpenClaim := { program := "ytbccjcdmpiolpaadoor", sum := "82cfa6f779dd3053b904f10343bd86753a57a1f36a34daed4d88f2fff29db483", func := "plenum/plenumlaw41.TrendRules", spec := "trendRules", unfollowed := true, recurses := true, named := ["plenum/codec.kinds"], apart := false, laid := [("plenum/codec.kinds", laid_plenum_codec_kinds)], narrowed := true }
def TrendRulesUptoSaid : Prop := trendRulesUptoRow.holds Tryd.pinned (OpenSpec.upto trendRulesSpec)

/-- 'plenumlaw41.TrendRestores', WHERE WHAT IT READS IS OF BULK AT MOST 1048576: true; the input reads as it did. -/
def trendRestoresUptoRow : OpenClaim := { program := "ytbccjcdmpiolpaadoor", sum := "82cfa6f779dd3053b904f10343bd86753a57a1f36a34daed4d88f2fff29db483", func := "plenum/plenumlaw41.TrendRestores", spec := "trendRestores", unfollowed := true, recurses := true, named := ["plenum/codec.kinds"], apart := false, laid := [("plenum/codec.kinds", laid_plenum_codec_kinds)], narrowed := true }
def TrendRestoresUptoSaid : Prop := trendRestoresUptoRow.holds Tryd.pinned (OpenSpec.upto trendRestoresSpec)

/-- 'plenumlaw41.TrendRing', WHERE WHAT IT READS IS OF BULK AT MOST 1048576: true; the input reads as it did. -/
def trendRingUptoRow : OpenClaim := { program := "ytbccjcdmpiolpaadoor", sum := "82cfa6f779dd3053b904f10343bd86753a57a1f36a34daed4d88f2fff29db483", func := "plenum/plenumlaw41.TrendRing", spec := "trendRing", unfollowed := true, recurses := true, named := ["plenum/codec.kinds"], apart := false, laid := [("plenum/codec.kinds", laid_plenum_codec_kinds)], narrowed := true }
def TrendRingUptoSaid : Prop := trendRingUptoRow.holds Tryd.pinned (OpenSpec.upto trendRingSpec)

end Rows
end Go.Proofs.YtbccjcdmpiolpaaDoor
