/-
  DERIVED. GIVEN WITH THE SEED: THE CARDS: each row of YtebcojpmdihjfaaDoorRows.lean that lists a variable, with what it lists TIED to the program's text (the seventh form; the later family's looks); each row that meets fmt, with fmt's text TOLD by the authors' own Lean function (tested against real Go, not proved from fmt's source: count such statements apart). THE CARD IS WHAT COUNTS. Prove the row's statement (the work); the ties are given (YtebcojpmdihjfaaDoorTie.lean); close each card by the builder's one call (the guide's Derived/Test/ToyasCard.lean, 'card_holds'). Laid BY PROGRAM, IN A SANDBOX (cutbox-door.mjs). By AI agents, Wed Nov 11 2026. No macro, syntax, notation, axiom, sorry.
-/
import Derived.Test.YtebcojpmdihjfaaDoorRows
import GoSem.ClaimSeven
namespace Go.Proofs.YtebcojpmdihjfaaDoor
namespace Rows

/-- THE TIED CARD OF 'permafrostlaw16.PathSplits'. -/
def pathSplitsCard : Claim7 := { stood := { row := pathSplitsRow, standIns := [], harness := (true, "ba4f5901e79a00b2d89037973ce9a9f1445daa0e6463b3e06fdf7ea4bd7bbf99"), looks := false }, kinds := [], alts := [], laidByText := true, laidKinds := [.data, .pinned], laidTests := true, laidLooks := .later }
def PathSplitsCardSaid : Prop := Claim7.holds Tryd.pinned (.plain (OpenSpec.ofChange pathSplitsSpec)) pathSplitsCard

/-- THE TIED CARD OF 'permafrostlaw16.PathJoins'. -/
def pathJoinsCard : Claim7 := { stood := { row := pathJoinsRow, standIns := [], harness := (true, "ba4f5901e79a00b2d89037973ce9a9f1445daa0e6463b3e06fdf7ea4bd7bbf99"), looks := false }, kinds := [], alts := [], laidByText := true, laidKinds := [.data, .pinned], laidTests := true, laidLooks := .later }
def PathJoinsCardSaid : Prop := Claim7.holds Tryd.pinned (.plain (OpenSpec.ofChange pathJoinsSpec)) pathJoinsCard

/-- THE TIED CARD OF 'permafrostlaw16.PathParent'. -/
def pathParentCard : Claim7 := { stood := { row := pathParentRow, standIns := [], harness := (true, "ba4f5901e79a00b2d89037973ce9a9f1445daa0e6463b3e06fdf7ea4bd7bbf99"), looks := false }, kinds := [], alts := [], laidByText := true, laidKinds := [.data, .pinned], laidTests := true, laidLooks := .later }
def PathParentCardSaid : Prop := Claim7.holds Tryd.pinned (.plain (OpenSpec.ofChange pathParentSpec)) pathParentCard

/-- THE TIED CARD OF 'permafrostlaw16.PathWithin'. -/
def pathWithinCard : Claim7 := { stood := { row := pathWithinRow, standIns := [], harness := (true, "ba4f5901e79a00b2d89037973ce9a9f1445daa0e6463b3e06fdf7ea4bd7bbf99"), looks := false }, kinds := [], alts := [], laidByText := true, laidKinds := [.data, .pinned], laidTests := true, laidLooks := .later }
def PathWithinCardSaid : Prop := Claim7.holds Tryd.pinned (.plain (OpenSpec.ofChange pathWithinSpec)) pathWithinCard

/-- THE TIED CARD OF 'permafrostlaw16.PathUp'. -/
def pathUpCard : Claim7 := { stood := { row := pathUpRow, standIns := [], harness := (true, "ba4f5901e79a00b2d89037973ce9a9f1445daa0e6463b3e06fdf7ea4bd7bbf99"), looks := false }, kinds := [], alts := [], laidByText := true, laidKinds := [.data, .pinned], laidTests := true, laidLooks := .later }
def PathUpCardSaid : Prop := Claim7.holds Tryd.pinned (.plain (OpenSpec.ofChange pathUpSpec)) pathUpCard

/-- THE TIED CARD OF 'permafrostlaw16.PathNames'. -/
def pathNamesCard : Claim7 := { stood := { row := pathNamesRow, standIns := [], harness := (true, "ba4f5901e79a00b2d89037973ce9a9f1445daa0e6463b3e06fdf7ea4bd7bbf99"), looks := false }, kinds := [], alts := [], laidByText := true, laidKinds := [.data, .pinned], laidTests := true, laidLooks := .later }
def PathNamesCardSaid : Prop := Claim7.holds Tryd.pinned (.plain (OpenSpec.ofChange pathNamesSpec)) pathNamesCard

/-- THE SECOND FORM's CARD OF 'permafrostlaw16.PathSplits'. -/
def pathSplitsUptoCard : Claim7 := { stood := { row := pathSplitsUptoRow, standIns := [], harness := (true, "ba4f5901e79a00b2d89037973ce9a9f1445daa0e6463b3e06fdf7ea4bd7bbf99"), looks := false }, kinds := [], alts := [], laidByText := true, laidKinds := [.data, .pinned], laidTests := true, laidLooks := .later }
def PathSplitsUptoCardSaid : Prop := Claim7.holds Tryd.pinned (.plain (OpenSpec.upto pathSplitsSpec)) pathSplitsUptoCard

/-- THE SECOND FORM's CARD OF 'permafrostlaw16.PathJoins'. -/
def pathJoinsUptoCard : Claim7 := { stood := { row := pathJoinsUptoRow, standIns := [], harness := (true, "ba4f5901e79a00b2d89037973ce9a9f1445daa0e6463b3e06fdf7ea4bd7bbf99"), looks := false }, kinds := [], alts := [], laidByText := true, laidKinds := [.data, .pinned], laidTests := true, laidLooks := .later }
def PathJoinsUptoCardSaid : Prop := Claim7.holds Tryd.pinned (.plain (OpenSpec.upto pathJoinsSpec)) pathJoinsUptoCard

/-- THE SECOND FORM's CARD OF 'permafrostlaw16.PathParent'. -/
def pathParentUptoCard : Claim7 := { stood := { row := pathParentUptoRow, standIns := [], harness := (true, "ba4f5901e79a00b2d89037973ce9a9f1445daa0e6463b3e06fdf7ea4bd7bbf99"), looks := false }, kinds := [], alts := [], laidByText := true, laidKinds := [.data, .pinned], laidTests := true, laidLooks := .later }
def PathParentUptoCardSaid : Prop := Claim7.holds Tryd.pinned (.plain (OpenSpec.upto pathParentSpec)) pathParentUptoCard

/-- THE SECOND FORM's CARD OF 'permafrostlaw16.PathWithin'. -/
def pathWithinUptoCard : Claim7 := { stood := { row := pathWithinUptoRow, standIns := [], harness := (true, "ba4f5901e79a00b2d89037973ce9a9f1445daa0e6463b3e06fdf7ea4bd7bbf99"), looks := false }, kinds := [], alts := [], laidByText := true, laidKinds := [.data, .pinned], laidTests := true, laidLooks := .later }
def PathWithinUptoCardSaid : Prop := Claim7.holds Tryd.pinned (.plain (OpenSpec.upto pathWithinSpec)) pathWithinUptoCard

/-- THE SECOND FORM's CARD OF 'permafrostlaw16.PathUp'. -/
def pathUpUptoCard : Claim7 := { stood := { row := pathUpUptoRow, standIns := [], harness := (true, "ba4f5901e79a00b2d89037973ce9a9f1445daa0e6463b3e06fdf7ea4bd7bbf99"), looks := false }, kinds := [], alts := [], laidByText := true, laidKinds := [.data, .pinned], laidTests := true, laidLooks := .later }
def PathUpUptoCardSaid : Prop := Claim7.holds Tryd.pinned (.plain (OpenSpec.upto pathUpSpec)) pathUpUptoCard

/-- THE SECOND FORM's CARD OF 'permafrostlaw16.PathNames'. -/
def pathNamesUptoCard : Claim7 := { stood := { row := pathNamesUptoRow, standIns := [], harness := (true, "ba4f5901e79a00b2d89037973ce9a9f1445daa0e6463b3e06fdf7ea4bd7bbf99"), looks := false }, kinds := [], alts := [], laidByText := true, laidKinds := [.data, .pinned], laidTests := true, laidLooks := .later }
def PathNamesUptoCardSaid : Prop := Claim7.holds Tryd.pinned (.plain (OpenSpec.upto pathNamesSpec)) pathNamesUptoCard
end Rows
end Go.Proofs.YtebcojpmdihjfaaDoor
