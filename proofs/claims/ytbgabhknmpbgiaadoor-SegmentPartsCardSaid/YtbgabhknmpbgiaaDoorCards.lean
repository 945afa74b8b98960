/-
  DERIVED. GIVEN WITH THE SEED: THE CARDS: each row of YtbgabhknmpbgiaaDoorRows.lean that lists a variable, with what it lists TIED to the program's text (the seventh form; the later family's looks); each row that meets fmt, with fmt's text TOLD by the authors' own Lean function (tested against real Go, not proved from fmt's source: count such statements apart). THE CARD IS WHAT COUNTS. Prove the row's statement (the work); the ties are given (YtbgabhknmpbgiaaDoorTie.lean); close each card by the builder's one call (the guide's Derived/Test/ToyasCard.lean, 'card_holds'). Laid BY PROGRAM, IN A SANDBOX (cutbox-door.mjs). By AI agents, Wed Nov 11 2026. No macro, syntax, notation, axiom, sorry.
-/
import Derived.Test.YtbgabhknmpbgiaaDoorRows
import GoSem.ClaimSeven
namespace Go.Proofs.YtbgabhknmpbgiaaDoor
namespace Rows

/-- THE TIED CARD OF 'plenumlaw49.SegmentParts'. -/
def segmentPartsCard : Claim7 := { stood := { row := segmentPartsRow, standIns := [], harness := (true, "890f3340eab410ca07798f741ff427d8fc963afe88bbea7d7902dec58a10bb18"), looks := false }, kinds := [], alts := [], laidByText := true, laidKinds := [.data], laidTests := true, laidLooks := .later }
def SegmentPartsCardSaid : Prop := Claim7.holds Tryd.pinned (.plain (OpenSpec.ofChange segmentPartsSpec)) segmentPartsCard

/-- THE TIED CARD OF 'plenumlaw49.SegmentSplits'. -/
def segmentSplitsCard : Claim7 := { stood := { row := segmentSplitsRow, standIns := [], harness := (true, "890f3340eab410ca07798f741ff427d8fc963afe88bbea7d7902dec58a10bb18"), looks := false }, kinds := [], alts := [], laidByText := true, laidKinds := [.data], laidTests := true, laidLooks := .later }
def SegmentSplitsCardSaid : Prop := Claim7.holds Tryd.pinned (.plain (OpenSpec.ofChange segmentSplitsSpec)) segmentSplitsCard

/-- THE TIED CARD OF 'plenumlaw49.SegmentSends'. -/
def segmentSendsCard : Claim7 := { stood := { row := segmentSendsRow, standIns := [], harness := (true, "890f3340eab410ca07798f741ff427d8fc963afe88bbea7d7902dec58a10bb18"), looks := false }, kinds := [], alts := [], laidByText := true, laidKinds := [.data], laidTests := true, laidLooks := .later }
def SegmentSendsCardSaid : Prop := Claim7.holds Tryd.pinned (.plain (OpenSpec.ofChange segmentSendsSpec)) segmentSendsCard

/-- THE TIED CARD OF 'plenumlaw49.SegmentReceives'. -/
def segmentReceivesCard : Claim7 := { stood := { row := segmentReceivesRow, standIns := [], harness := (true, "890f3340eab410ca07798f741ff427d8fc963afe88bbea7d7902dec58a10bb18"), looks := false }, kinds := [], alts := [], laidByText := true, laidKinds := [.data], laidTests := true, laidLooks := .later }
def SegmentReceivesCardSaid : Prop := Claim7.holds Tryd.pinned (.plain (OpenSpec.ofChange segmentReceivesSpec)) segmentReceivesCard

/-- THE TIED CARD OF 'plenumlaw49.SegmentSafe'. -/
def segmentSafeCard : Claim7 := { stood := { row := segmentSafeRow, standIns := [], harness := (true, "890f3340eab410ca07798f741ff427d8fc963afe88bbea7d7902dec58a10bb18"), looks := false }, kinds := [], alts := [], laidByText := true, laidKinds := [.data], laidTests := true, laidLooks := .later }
def SegmentSafeCardSaid : Prop := Claim7.holds Tryd.pinned (.plain (OpenSpec.ofChange segmentSafeSpec)) segmentSafeCard

/-- THE TIED CARD OF 'plenumlaw49.SegmentCalm'. -/
def segmentCalmCard : Claim7 := { stood := { row := segmentCalmRow, standIns := [], harness := (true, "890f3340eab410ca07798f741ff427d8fc963afe88bbea7d7902dec58a10bb18"), looks := false }, kinds := [], alts := [], laidByText := true, laidKinds := [.data], laidTests := true, laidLooks := .later }
def SegmentCalmCardSaid : Prop := Claim7.holds Tryd.pinned (.plain (OpenSpec.ofChange segmentCalmSpec)) segmentCalmCard

/-- THE TIED CARD OF 'plenumlaw49.SegmentGives'. -/
def segmentGivesCard : Claim7 := { stood := { row := segmentGivesRow, standIns := [], harness := (true, "890f3340eab410ca07798f741ff427d8fc963afe88bbea7d7902dec58a10bb18"), looks := false }, kinds := [], alts := [], laidByText := true, laidKinds := [.data], laidTests := true, laidLooks := .later }
def SegmentGivesCardSaid : Prop := Claim7.holds Tryd.pinned (.plain (OpenSpec.ofChange segmentGivesSpec)) segmentGivesCard

/-- THE SECOND FORM's CARD OF 'plenumlaw49.SegmentParts'. -/
def segmentPartsUptoCard : Claim7 := { stood := { row := segmentPartsUptoRow, standIns := [], harness := (true, "890f3340eab410ca07798f741ff427d8fc963afe88bbea7d7902dec58a10bb18"), looks := false }, kinds := [], alts := [], laidByText := true, laidKinds := [.data], laidTests := true, laidLooks := .later }
def SegmentPartsUptoCardSaid : Prop := Claim7.holds Tryd.pinned (.plain (OpenSpec.upto segmentPartsSpec)) segmentPartsUptoCard

/-- THE SECOND FORM's CARD OF 'plenumlaw49.SegmentSplits'. -/
def segmentSplitsUptoCard : Claim7 := { stood := { row := segmentSplitsUptoRow, standIns := [], harness := (true, "890f3340eab410ca07798f741ff427d8fc963afe88bbea7d7902dec58a10bb18"), looks := false }, kinds := [], alts := [], laidByText := true, laidKinds := [.data], laidTests := true, laidLooks := .later }
def SegmentSplitsUptoCardSaid : Prop := Claim7.holds Tryd.pinned (.plain (OpenSpec.upto segmentSplitsSpec)) segmentSplitsUptoCard

/-- THE SECOND FORM's CARD OF 'plenumlaw49.SegmentSends'. -/
def segmentSendsUptoCard : Claim7 := { stood := { row := segmentSendsUptoRow, standIns := [], harness := (true, "890f3340eab410ca07798f741ff427d8fc963afe88bbea7d7902dec58a10bb18"), looks := false }, kinds := [], alts := [], laidByText := true, laidKinds := [.data], laidTests := true, laidLooks := .later }
def SegmentSendsUptoCardSaid : Prop := Claim7.holds Tryd.pinned (.plain (OpenSpec.upto segmentSendsSpec)) segmentSendsUptoCard

/-- THE SECOND FORM's CARD OF 'plenumlaw49.SegmentReceives'. -/
def segmentReceivesUptoCard : Claim7 := { stood := { row := segmentReceivesUptoRow, standIns := [], harness := (true, "890f3340eab410ca07798f741ff427d8fc963afe88bbea7d7902dec58a10bb18"), looks := false }, kinds := [], alts := [], laidByText := true, laidKinds := [.data], laidTests := true, laidLooks := .later }
def SegmentReceivesUptoCardSaid : Prop := Claim7.holds Tryd.pinned (.plain (OpenSpec.upto segmentReceivesSpec)) segmentReceivesUptoCard

/-- THE SECOND FORM's CARD OF 'plenumlaw49.SegmentSafe'. -/
def segmentSafeUptoCard : Claim7 := { stood := { row := segmentSafeUptoRow, standIns := [], harness := (true, "890f3340eab410ca07798f741ff427d8fc963afe88bbea7d7902dec58a10bb18"), looks := false }, kinds := [], alts := [], laidByText := true, laidKinds := [.data], laidTests := true, laidLooks := .later }
def SegmentSafeUptoCardSaid : Prop := Claim7.holds Tryd.pinned (.plain (OpenSpec.upto segmentSafeSpec)) segmentSafeUptoCard

/-- THE SECOND FORM's CARD OF 'plenumlaw49.SegmentCalm'. -/
def segmentCalmUptoCard : Claim7 := { stood := { row := segmentCalmUptoRow, standIns := [], harness := (true, "890f3340eab410ca07798f741ff427d8fc963afe88bbea7d7902dec58a10bb18"), looks := false }, kinds := [], alts := [], laidByText := true, laidKinds := [.data], laidTests := true, laidLooks := .later }
def SegmentCalmUptoCardSaid : Prop := Claim7.holds Tryd.pinned (.plain (OpenSpec.upto segmentCalmSpec)) segmentCalmUptoCard

/-- THE SECOND FORM's CARD OF 'plenumlaw49.SegmentGives'. -/
def segmentGivesUptoCard : Claim7 := { stood := { row := segmentGivesUptoRow, standIns := [], harness := (true, "890f3340eab410ca07798f741ff427d8fc963afe88bbea7d7902dec58a10bb18"), looks := false }, kinds := [], alts := [], laidByText := true, laidKinds := [.data], laidTests := true, laidLooks := .later }
def SegmentGivesUptoCardSaid : Prop := Claim7.holds Tryd.pinned (.plain (OpenSpec.upto segmentGivesSpec)) segmentGivesUptoCard
end Rows
end Go.Proofs.YtbgabhknmpbgiaaDoor
