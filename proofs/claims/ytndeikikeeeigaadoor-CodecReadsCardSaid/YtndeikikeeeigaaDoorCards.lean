/-
  DERIVED. GIVEN WITH THE SEED: THE CARDS: each row of YtndeikikeeeigaaDoorRows.lean that lists a variable, with what it lists TIED to the program's text (the seventh form; the later family's looks); each row that meets fmt, with fmt's text TOLD by the authors' own Lean function (tested against real Go, not proved from fmt's source: count such statements apart). THE CARD IS WHAT COUNTS. Prove the row's statement (the work); the ties are given (YtndeikikeeeigaaDoorTie.lean); close each card by the builder's one call (the guide's Derived/Test/ToyasCard.lean, 'card_holds'). Laid BY PROGRAM, IN A SANDBOX (cutbox-door.mjs). By AI agents, Wed Nov 11 2026. No macro, syntax, notation, axiom, sorry.
-/
import Derived.Test.YtndeikikeeeigaaDoorRows
import GoSem.ClaimSeven
namespace Go.Proofs.YtndeikikeeeigaaDoor
namespace Rows

/-- THE TIED CARD OF 'plenumlaw02.CodecPrefix'. -/
def codecPrefixCard : Claim7 := { stood := { row := codecPrefixRow, standIns := [], harness := (true, "df68463a3ead1255f1618a87c8c1347ab87336f1cb44d5b5530c4be1e9654a40"), looks := false }, kinds := [], alts := [], laidByText := true, laidKinds := [.data], laidTests := true, laidLooks := .later }
def CodecPrefixCardSaid : Prop := Claim7.holds Tryd.pinned (.plain (OpenSpec.ofChange codecPrefixSpec)) codecPrefixCard

/-- THE TIED CARD OF 'plenumlaw02.CodecDigest'. -/
def codecDigestCard : Claim7 := { stood := { row := codecDigestRow, standIns := [], harness := (true, "df68463a3ead1255f1618a87c8c1347ab87336f1cb44d5b5530c4be1e9654a40"), looks := false }, kinds := [], alts := [], laidByText := true, laidKinds := [.data], laidTests := true, laidLooks := .later }
def CodecDigestCardSaid : Prop := Claim7.holds Tryd.pinned (.plain (OpenSpec.ofChange codecDigestSpec)) codecDigestCard

/-- THE TIED CARD OF 'plenumlaw02.CodecSkips'. -/
def codecSkipsCard : Claim7 := { stood := { row := codecSkipsRow, standIns := [], harness := (true, "df68463a3ead1255f1618a87c8c1347ab87336f1cb44d5b5530c4be1e9654a40"), looks := false }, kinds := [], alts := [], laidByText := true, laidKinds := [.data], laidTests := true, laidLooks := .later }
def CodecSkipsCardSaid : Prop := Claim7.holds Tryd.pinned (.plain (OpenSpec.ofChange codecSkipsSpec)) codecSkipsCard

/-- THE TIED CARD OF 'plenumlaw02.CodecWrites'. -/
def codecWritesCard : Claim7 := { stood := { row := codecWritesRow, standIns := [], harness := (true, "df68463a3ead1255f1618a87c8c1347ab87336f1cb44d5b5530c4be1e9654a40"), looks := false }, kinds := [], alts := [], laidByText := true, laidKinds := [.data], laidTests := true, laidLooks := .later }
def CodecWritesCardSaid : Prop := Claim7.holds Tryd.pinned (.plain (OpenSpec.ofChange codecWritesSpec)) codecWritesCard

/-- THE TIED CARD OF 'plenumlaw02.CodecRaw'. -/
def codecRawCard : Claim7 := { stood := { row := codecRawRow, standIns := [], harness := (true, "df68463a3ead1255f1618a87c8c1347ab87336f1cb44d5b5530c4be1e9654a40"), looks := false }, kinds := [], alts := [], laidByText := true, laidKinds := [.data], laidTests := true, laidLooks := .later }
def CodecRawCardSaid : Prop := Claim7.holds Tryd.pinned (.plain (OpenSpec.ofChange codecRawSpec)) codecRawCard

/-- THE TIED CARD OF 'plenumlaw02.CodecReads'. -/
def codecReadsCard : Claim7 := { stood := { row := codecReadsRow, standIns := [], harness := (true, "df68463a3ead1255f1618a87c8c1347ab87336f1cb44d5b5530c4be1e9654a40"), looks := false }, kinds := [], alts := [], laidByText := true, laidKinds := [.data], laidTests := true, laidLooks := .later }
def CodecReadsCardSaid : Prop := Claim7.holds Tryd.pinned (.plain (OpenSpec.ofChange codecReadsSpec)) codecReadsCard

/-- THE SECOND FORM's CARD OF 'plenumlaw02.CodecPrefix'. -/
def codecPrefixUptoCard : Claim7 := { stood := { row := codecPrefixUptoRow, standIns := [], harness := (true, "df68463a3ead1255f1618a87c8c1347ab87336f1cb44d5b5530c4be1e9654a40"), looks := false }, kinds := [], alts := [], laidByText := true, laidKinds := [.data], laidTests := true, laidLooks := .later }
def CodecPrefixUptoCardSaid : Prop := Claim7.holds Tryd.pinned (.plain (OpenSpec.upto codecPrefixSpec)) codecPrefixUptoCard

/-- THE SECOND FORM's CARD OF 'plenumlaw02.CodecDigest'. -/
def codecDigestUptoCard : Claim7 := { stood := { row := codecDigestUptoRow, standIns := [], harness := (true, "df68463a3ead1255f1618a87c8c1347ab87336f1cb44d5b5530c4be1e9654a40"), looks := false }, kinds := [], alts := [], laidByText := true, laidKinds := [.data], laidTests := true, laidLooks := .later }
def CodecDigestUptoCardSaid : Prop := Claim7.holds Tryd.pinned (.plain (OpenSpec.upto codecDigestSpec)) codecDigestUptoCard

/-- THE SECOND FORM's CARD OF 'plenumlaw02.CodecSkips'. -/
def codecSkipsUptoCard : Claim7 := { stood := { row := codecSkipsUptoRow, standIns := [], harness := (true, "df68463a3ead1255f1618a87c8c1347ab87336f1cb44d5b5530c4be1e9654a40"), looks := false }, kinds := [], alts := [], laidByText := true, laidKinds := [.data], laidTests := true, laidLooks := .later }
def CodecSkipsUptoCardSaid : Prop := Claim7.holds Tryd.pinned (.plain (OpenSpec.upto codecSkipsSpec)) codecSkipsUptoCard

/-- THE SECOND FORM's CARD OF 'plenumlaw02.CodecWrites'. -/
def codecWritesUptoCard : Claim7 := { stood := { row := codecWritesUptoRow, standIns := [], harness := (true, "df68463a3ead1255f1618a87c8c1347ab87336f1cb44d5b5530c4be1e9654a40"), looks := false }, kinds := [], alts := [], laidByText := true, laidKinds := [.data], laidTests := true, laidLooks := .later }
def CodecWritesUptoCardSaid : Prop := Claim7.holds Tryd.pinned (.plain (OpenSpec.upto codecWritesSpec)) codecWritesUptoCard

/-- THE SECOND FORM's CARD OF 'plenumlaw02.CodecRaw'. -/
def codecRawUptoCard : Claim7 := { stood := { row := codecRawUptoRow, standIns := [], harness := (true, "df68463a3ead1255f1618a87c8c1347ab87336f1cb44d5b5530c4be1e9654a40"), looks := false }, kinds := [], alts := [], laidByText := true, laidKinds := [.data], laidTests := true, laidLooks := .later }
def CodecRawUptoCardSaid : Prop := Claim7.holds Tryd.pinned (.plain (OpenSpec.upto codecRawSpec)) codecRawUptoCard

/-- THE SECOND FORM's CARD OF 'plenumlaw02.CodecReads'. -/
def codecReadsUptoCard : Claim7 := { stood := { row := codecReadsUptoRow, standIns := [], harness := (true, "df68463a3ead1255f1618a87c8c1347ab87336f1cb44d5b5530c4be1e9654a40"), looks := false }, kinds := [], alts := [], laidByText := true, laidKinds := [.data], laidTests := true, laidLooks := .later }
def CodecReadsUptoCardSaid : Prop := Claim7.holds Tryd.pinned (.plain (OpenSpec.upto codecReadsSpec)) codecReadsUptoCard
end Rows
end Go.Proofs.YtndeikikeeeigaaDoor
