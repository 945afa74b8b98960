/-
  DERIVED. GIVEN WITH THE SEED: THE CARDS: each row of YtbccjcdmpiolpaaDoorRows.lean that lists a variable, with what it lists TIED to the program's text (the seventh form; the later family's looks); each row that meets fmt, with fmt's text TOLD by the authors' own Lean function (tested against real Go, not proved from fmt's source: count such statements apart). THE CARD IS WHAT COUNTS. Prove the row's statement (the work); the ties are given (YtbccjcdmpiolpaaDoorTie.lean); close each card by the builder's one call (the guide's Derived/Test/ToyasCard.lean, 'card_holds'). Laid BY PROGRAM, IN A SANDBOX (cutbox-door.mjs). By AI agents, Wed Nov 11 2026. No macro, syntax, notation, axiom, sorry.
-/
import Derived.Test.YtbccjcdmpiolpaaDoorRows
import GoSem.ClaimSeven
namespace Go.Proofs.YtbccjcdmpiolpaaDoor
namespace Rows

/-- THE TIED CARD OF 'plenumlaw41.TrendReader'. -/
def trendReaderCard : Claim7 := { stood := { row := trendReaderRow, standIns := [], harness := (true, "81b80afe1b1faae234c654a01e677b6be036c5dcdb6685c327ef4299df421bea"), looks := false }, kinds := [], alts := [], laidByText := true, laidKinds := [.data], laidTests := true, laidLooks := .later }
def TrendReaderCardSaid : Prop := Claim7.holds Tryd.pinned (.plain (OpenSpec.ofChange trendReaderSpec)) trendReaderCard

/-- THE TIED CARD OF 'plenumlaw41.TrendEvery'. -/
def trendEveryCard : Claim7 := { stood := { row := trendEveryRow, standIns := [], harness := (true, "81b80afe1b1faae234c654a01e677b6be036c5dcdb6685c327ef4299df421bea"), looks := false }, kinds := [], alts := [], laidByText := true, laidKinds := [.data], laidTests := true, laidLooks := .later }
def TrendEveryCardSaid : Prop := Claim7.holds Tryd.pinned (.plain (OpenSpec.ofChange trendEverySpec)) trendEveryCard

/-- THE TIED CARD OF 'plenumlaw41.TrendRules'. -/
def trendRulesCard : Claim7 := { stood := { row := trendRulesRow, standIns := [], harness := (true, "81b80afe1b1faae234c654a01e677b6be036c5dcdb6685c327ef4299df421bea"), looks := false }, kinds := [], alts := [], laidByText := true, laidKinds := [.data], laidTests := true, laidLooks := .later }
def TrendRulesCardSaid : Prop := Claim7.holds Tryd.pinned (.plain (OpenSpec.ofChange trendRulesSpec)) trendRulesCard

/-- THE TIED CARD OF 'plenumlaw41.TrendRestores'. -/
def trendRestoresCard : Claim7 := { stood := { row := trendRestoresRow, standIns := [], harness := (true, "81b80afe1b1faae234c654a01e677b6be036c5dcdb6685c327ef4299df421bea"), looks := false }, kinds := [], alts := [], laidByText := true, laidKinds := [.data], laidTests := true, laidLooks := .later }
def TrendRestoresCardSaid : Prop := Claim7.holds Tryd.pinned (.plain (OpenSpec.ofChange trendRestoresSpec)) trendRestoresCard

/-- THE TIED CARD OF 'plenumlaw41.TrendRing'. -/
def trendRingCard : Claim7 := { stood := { row := trendRingRow, standIns := [], harness := (true, "81b80afe1b1faae234c654a01e677b6be036c5dcdb6685c327ef4299df421bea"), looks := false }, kinds := [], alts := [], laidByText := true, laidKinds := [.data], laidTests := true, laidLooks := .later }
def TrendRingCardSaid : Prop := Claim7.holds Tryd.pinned (.plain (OpenSpec.ofChange trendRingSpec)) trendRingCard

/-- THE SECOND FORM's CARD OF 'plenumlaw41.TrendReader'. -/
def trendReaderUptoCard : Claim7 := { stood := { row := trendReaderUptoRow, standIns := [], harness := (true, "81b80afe1b1faae234c654a01e677b6be036c5dcdb6685c327ef4299df421bea"), looks := false }, kinds := [], alts := [], laidByText := true, laidKinds := [.data], laidTests := true, laidLooks := .later }
def TrendReaderUptoCardSaid : Prop := Claim7.holds Tryd.pinned (.plain (OpenSpec.upto trendReaderSpec)) trendReaderUptoCard

/-- THE SECOND FORM's CARD OF 'plenumlaw41.TrendEvery'. -/
def trendEveryUptoCard : Claim7 := { stood := { row := trendEveryUptoRow, standIns := [], harness := (true, "81b80afe1b1faae234c654a01e677b6be036c5dcdb6685c327ef4299df421bea"), looks := false }, kinds := [], alts := [], laidByText := true, laidKinds := [.data], laidTests := true, laidLooks := .later }
def TrendEveryUptoCardSaid : Prop := Claim7.holds Tryd.pinned (.plain (OpenSpec.upto trendEverySpec)) trendEveryUptoCard

/-- THE SECOND FORM's CARD OF 'plenumlaw41.TrendRules'. -/
def trendRulesUptoCard : Claim7 := { stood := { row := trendRulesUptoRow, standIns := [], harness := (true, "81b80afe1b1faae234c654a01e677b6be036c5dcdb6685c327ef4299df421bea"), looks := false }, kinds := [], alts := [], laidByText := true, laidKinds := [.data], laidTests := true, laidLooks := .later }
def TrendRulesUptoCardSaid : Prop := Claim7.holds Tryd.pinned (.plain (OpenSpec.upto trendRulesSpec)) trendRulesUptoCard

/-- THE SECOND FORM's CARD OF 'plenumlaw41.TrendRestores'. -/
def trendRestoresUptoCard : Claim7 := { stood := { row := trendRestoresUptoRow, standIns := [], harness := (true, "81b80afe1b1faae234c654a01e677b6be036c5dcdb6685c327ef4299df421bea"), looks := false }, kinds := [], alts := [], laidByText := true, laidKinds := [.data], laidTests := true, laidLooks := .later }
def TrendRestoresUptoCardSaid : Prop := Claim7.holds Tryd.pinned (.plain (OpenSpec.upto trendRestoresSpec)) trendRestoresUptoCard

/-- THE SECOND FORM's CARD OF 'plenumlaw41.TrendRing'. -/
def trendRingUptoCard : Claim7 := { stood := { row := trendRingUptoRow, standIns := [], harness := (true, "81b80afe1b1faae234c654a01e677b6be036c5dcdb6685c327ef4299df421bea"), looks := false }, kinds := [], alts := [], laidByText := true, laidKinds := [.data], laidTests := true, laidLooks := .later }
def TrendRingUptoCardSaid : Prop := Claim7.holds Tryd.pinned (.plain (OpenSpec.upto trendRingSpec)) trendRingUptoCard
end Rows
end Go.Proofs.YtbccjcdmpiolpaaDoor
