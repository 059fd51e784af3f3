/-
  DERIVED. GIVEN WITH THE SEED: THE CARDS: each row of YtaccokghjpcijaaGreatDoorRows.lean that lists a variable, with what it lists TIED to the program's text (the seventh form; the later family's looks); each row that meets fmt, with fmt's text TOLD by the authors' own Lean function (tested against real Go, not proved from fmt's source: count such statements apart). THE CARD IS WHAT COUNTS. Prove the row's statement (the work); the ties are given (YtaccokghjpcijaaGreatDoorTie.lean); close each card by the builder's one call (the guide's Derived/Test/ToyasCard.lean, 'card_holds'). Laid BY PROGRAM, IN A SANDBOX (cutbox-door.mjs). By AI agents, Wed Nov 11 2026. No macro, syntax, notation, axiom, sorry.
-/
import Derived.Test.YtaccokghjpcijaaGreatDoorRows
import GoSem.ClaimSeven
namespace Go.Proofs.YtaccokghjpcijaaGreatDoor
namespace Rows

/-- THE TIED CARD OF 'permafrostlaw17.ModelWritten'. -/
def modelWrittenCard : Claim7 := { stood := { row := modelWrittenRow, standIns := [], harness := (true, "4e2eff3bc578e7520c85cce6e3856e801e1864b297db49ede3f1e84b6f185969"), looks := false }, kinds := [], alts := [], laidByText := true, laidKinds := [.data, .data, .data, .data, .pinned], laidTests := true, laidLooks := .later }
def ModelWrittenCardSaid : Prop := Claim7.holds Tryz.pinned (.plain (OpenSpec.ofChange modelWrittenSpec)) modelWrittenCard

/-- THE TIED CARD OF 'permafrostlaw17.ModelApart'. -/
def modelApartCard : Claim7 := { stood := { row := modelApartRow, standIns := [], harness := (true, "4e2eff3bc578e7520c85cce6e3856e801e1864b297db49ede3f1e84b6f185969"), looks := false }, kinds := [], alts := [], laidByText := true, laidKinds := [.data, .data, .data, .data, .pinned], laidTests := true, laidLooks := .later }
def ModelApartCardSaid : Prop := Claim7.holds Tryz.pinned (.plain (OpenSpec.ofChange modelApartSpec)) modelApartCard

/-- THE TIED CARD OF 'permafrostlaw17.ModelListed'. -/
def modelListedCard : Claim7 := { stood := { row := modelListedRow, standIns := [], harness := (true, "4e2eff3bc578e7520c85cce6e3856e801e1864b297db49ede3f1e84b6f185969"), looks := false }, kinds := [], alts := [], laidByText := true, laidKinds := [.data, .data, .data, .data, .pinned], laidTests := true, laidLooks := .later }
def ModelListedCardSaid : Prop := Claim7.holds Tryz.pinned (.plain (OpenSpec.ofChange modelListedSpec)) modelListedCard

/-- THE TIED CARD OF 'permafrostlaw17.ModelScripts'. -/
def modelScriptsCard : Claim7 := { stood := { row := modelScriptsRow, standIns := [], harness := (true, "4e2eff3bc578e7520c85cce6e3856e801e1864b297db49ede3f1e84b6f185969"), looks := false }, kinds := [], alts := [], laidByText := true, laidKinds := [.data, .data, .data, .data, .pinned], laidTests := true, laidLooks := .later }
def ModelScriptsCardSaid : Prop := Claim7.holds Tryz.pinned (.plain (OpenSpec.ofChange modelScriptsSpec)) modelScriptsCard

/-- THE TIED CARD OF 'permafrostlaw17.ModelMoves'. -/
def modelMovesCard : Claim7 := { stood := { row := modelMovesRow, standIns := [], harness := (true, "4e2eff3bc578e7520c85cce6e3856e801e1864b297db49ede3f1e84b6f185969"), looks := false }, kinds := [], alts := [], laidByText := true, laidKinds := [.data, .data, .data, .data, .pinned], laidTests := true, laidLooks := .later }
def ModelMovesCardSaid : Prop := Claim7.holds Tryz.pinned (.plain (OpenSpec.ofChange modelMovesSpec)) modelMovesCard

/-- THE TIED CARD OF 'permafrostlaw17.ModelNil'. -/
def modelNilCard : Claim7 := { stood := { row := modelNilRow, standIns := [], harness := (true, "4e2eff3bc578e7520c85cce6e3856e801e1864b297db49ede3f1e84b6f185969"), looks := false }, kinds := [], alts := [], laidByText := true, laidKinds := [.data, .data, .data, .data, .pinned], laidTests := true, laidLooks := .later }
def ModelNilCardSaid : Prop := Claim7.holds Tryz.pinned (.plain (OpenSpec.ofChange modelNilSpec)) modelNilCard

/-- THE TIED CARD OF 'permafrostlaw17.ModelRefused'. -/
def modelRefusedCard : Claim7 := { stood := { row := modelRefusedRow, standIns := [], harness := (true, "4e2eff3bc578e7520c85cce6e3856e801e1864b297db49ede3f1e84b6f185969"), looks := false }, kinds := [], alts := [], laidByText := true, laidKinds := [.data, .data, .data, .data, .pinned], laidTests := true, laidLooks := .later }
def ModelRefusedCardSaid : Prop := Claim7.holds Tryz.pinned (.plain (OpenSpec.ofChange modelRefusedSpec)) modelRefusedCard

/-- THE SECOND FORM's CARD OF 'permafrostlaw17.ModelWritten'. -/
def modelWrittenUptoCard : Claim7 := { stood := { row := modelWrittenUptoRow, standIns := [], harness := (true, "4e2eff3bc578e7520c85cce6e3856e801e1864b297db49ede3f1e84b6f185969"), looks := false }, kinds := [], alts := [], laidByText := true, laidKinds := [.data, .data, .data, .data, .pinned], laidTests := true, laidLooks := .later }
def ModelWrittenUptoCardSaid : Prop := Claim7.holds Tryz.pinned (.plain (OpenSpec.upto modelWrittenSpec)) modelWrittenUptoCard

/-- THE SECOND FORM's CARD OF 'permafrostlaw17.ModelApart'. -/
def modelApartUptoCard : Claim7 := { stood := { row := modelApartUptoRow, standIns := [], harness := (true, "4e2eff3bc578e7520c85cce6e3856e801e1864b297db49ede3f1e84b6f185969"), looks := false }, kinds := [], alts := [], laidByText := true, laidKinds := [.data, .data, .data, .data, .pinned], laidTests := true, laidLooks := .later }
def ModelApartUptoCardSaid : Prop := Claim7.holds Tryz.pinned (.plain (OpenSpec.upto modelApartSpec)) modelApartUptoCard

/-- THE SECOND FORM's CARD OF 'permafrostlaw17.ModelListed'. -/
def modelListedUptoCard : Claim7 := { stood := { row := modelListedUptoRow, standIns := [], harness := (true, "4e2eff3bc578e7520c85cce6e3856e801e1864b297db49ede3f1e84b6f185969"), looks := false }, kinds := [], alts := [], laidByText := true, laidKinds := [.data, .data, .data, .data, .pinned], laidTests := true, laidLooks := .later }
def ModelListedUptoCardSaid : Prop := Claim7.holds Tryz.pinned (.plain (OpenSpec.upto modelListedSpec)) modelListedUptoCard

/-- THE SECOND FORM's CARD OF 'permafrostlaw17.ModelScripts'. -/
def modelScriptsUptoCard : Claim7 := { stood := { row := modelScriptsUptoRow, standIns := [], harness := (true, "4e2eff3bc578e7520c85cce6e3856e801e1864b297db49ede3f1e84b6f185969"), looks := false }, kinds := [], alts := [], laidByText := true, laidKinds := [.data, .data, .data, .data, .pinned], laidTests := true, laidLooks := .later }
def ModelScriptsUptoCardSaid : Prop := Claim7.holds Tryz.pinned (.plain (OpenSpec.upto modelScriptsSpec)) modelScriptsUptoCard

/-- THE SECOND FORM's CARD OF 'permafrostlaw17.ModelMoves'. -/
def modelMovesUptoCard : Claim7 := { stood := { row := modelMovesUptoRow, standIns := [], harness := (true, "4e2eff3bc578e7520c85cce6e3856e801e1864b297db49ede3f1e84b6f185969"), looks := false }, kinds := [], alts := [], laidByText := true, laidKinds := [.data, .data, .data, .data, .pinned], laidTests := true, laidLooks := .later }
def ModelMovesUptoCardSaid : Prop := Claim7.holds Tryz.pinned (.plain (OpenSpec.upto modelMovesSpec)) modelMovesUptoCard

/-- THE SECOND FORM's CARD OF 'permafrostlaw17.ModelNil'. -/
def modelNilUptoCard : Claim7 := { stood := { row := modelNilUptoRow, standIns := [], harness := (true, "4e2eff3bc578e7520c85cce6e3856e801e1864b297db49ede3f1e84b6f185969"), looks := false }, kinds := [], alts := [], laidByText := true, laidKinds := [.data, .data, .data, .data, .pinned], laidTests := true, laidLooks := .later }
def ModelNilUptoCardSaid : Prop := Claim7.holds Tryz.pinned (.plain (OpenSpec.upto modelNilSpec)) modelNilUptoCard

/-- THE SECOND FORM's CARD OF 'permafrostlaw17.ModelRefused'. -/
def modelRefusedUptoCard : Claim7 := { stood := { row := modelRefusedUptoRow, standIns := [], harness := (true, "4e2eff3bc578e7520c85cce6e3856e801e1864b297db49ede3f1e84b6f185969"), looks := false }, kinds := [], alts := [], laidByText := true, laidKinds := [.data, .data, .data, .data, .pinned], laidTests := true, laidLooks := .later }
def ModelRefusedUptoCardSaid : Prop := Claim7.holds Tryz.pinned (.plain (OpenSpec.upto modelRefusedSpec)) modelRefusedUptoCard
end Rows
end Go.Proofs.YtaccokghjpcijaaGreatDoor
