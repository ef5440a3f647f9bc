/-
  DERIVED. GIVEN WITH THE SEED: THE CARDS: each row of YtldimfobgpmlaaaGreatDoorRows.lean that lists a variable, with what it lists TIED to the program's text (the seventh form; the later family's looks); each row that meets fmt, with fmt's text TOLD by the authors' own Lean function (tested against real Go, not proved from fmt's source: count such statements apart). THE CARD IS WHAT COUNTS. Prove the row's statement (the work); the ties are given (YtldimfobgpmlaaaGreatDoorTie.lean); close each card by the builder's one call (the guide's Derived/Test/ToyasCard.lean, 'card_holds'). Laid BY PROGRAM, IN A SANDBOX (cutbox-door.mjs). By AI agents, Wed Nov 11 2026. No macro, syntax, notation, axiom, sorry.
-/
import Derived.Test.YtldimfobgpmlaaaGreatDoorRows
import GoSem.ClaimSeven
namespace Go.Proofs.YtldimfobgpmlaaaGreatDoor
namespace Rows

/-- THE TIED CARD OF 'familychecklaw07.TreeInitials'. -/
def treeInitialsCard : Claim7 := { stood := { row := treeInitialsRow, standIns := [], harness := (true, "f759c9638f632831f8187a1768ab8e8bf9a3cdc6a751d9cb365ba184581ff823"), looks := false }, kinds := [], alts := [], laidByText := true, laidKinds := [.listed, .data], laidTests := true, laidLooks := .later }
def TreeInitialsCardSaid : Prop := Claim7.holds Tryz.pinned (.plain (OpenSpec.ofChange treeInitialsSpec)) treeInitialsCard

/-- THE TIED CARD OF 'familychecklaw07.TreeBads'. -/
def treeBadsCard : Claim7 := { stood := { row := treeBadsRow, standIns := [], harness := (true, "f759c9638f632831f8187a1768ab8e8bf9a3cdc6a751d9cb365ba184581ff823"), looks := false }, kinds := [], alts := [], laidByText := true, laidKinds := [.listed, .data], laidTests := true, laidLooks := .later }
def TreeBadsCardSaid : Prop := Claim7.holds Tryz.pinned (.plain (OpenSpec.ofChange treeBadsSpec)) treeBadsCard

/-- THE TIED CARD OF 'familychecklaw07.TreeInitialMeans'. -/
def treeInitialMeansCard : Claim7 := { stood := { row := treeInitialMeansRow, standIns := [], harness := (true, "f759c9638f632831f8187a1768ab8e8bf9a3cdc6a751d9cb365ba184581ff823"), looks := false }, kinds := [], alts := [], laidByText := true, laidKinds := [.listed, .data], laidTests := true, laidLooks := .later }
def TreeInitialMeansCardSaid : Prop := Claim7.holds Tryz.pinned (.plain (OpenSpec.ofChange treeInitialMeansSpec)) treeInitialMeansCard

/-- THE TIED CARD OF 'familychecklaw07.TreeForwards'. -/
def treeForwardsCard : Claim7 := { stood := { row := treeForwardsRow, standIns := [], harness := (true, "f759c9638f632831f8187a1768ab8e8bf9a3cdc6a751d9cb365ba184581ff823"), looks := false }, kinds := [], alts := [], laidByText := true, laidKinds := [.listed, .data], laidTests := true, laidLooks := .later }
def TreeForwardsCardSaid : Prop := Claim7.holds Tryz.pinned (.plain (OpenSpec.ofChange treeForwardsSpec)) treeForwardsCard

/-- THE TIED CARD OF 'familychecklaw07.TreeForwardCloses'. -/
def treeForwardClosesCard : Claim7 := { stood := { row := treeForwardClosesRow, standIns := [], harness := (true, "f759c9638f632831f8187a1768ab8e8bf9a3cdc6a751d9cb365ba184581ff823"), looks := false }, kinds := [], alts := [], laidByText := true, laidKinds := [.listed, .data], laidTests := true, laidLooks := .later }
def TreeForwardClosesCardSaid : Prop := Claim7.holds Tryz.pinned (.plain (OpenSpec.ofChange treeForwardClosesSpec)) treeForwardClosesCard

/-- THE TIED CARD OF 'familychecklaw07.TreeProves'. -/
def treeProvesCard : Claim7 := { stood := { row := treeProvesRow, standIns := [], harness := (true, "f759c9638f632831f8187a1768ab8e8bf9a3cdc6a751d9cb365ba184581ff823"), looks := false }, kinds := [], alts := [], laidByText := true, laidKinds := [.listed, .data], laidTests := true, laidLooks := .later }
def TreeProvesCardSaid : Prop := Claim7.holds Tryz.pinned (.plain (OpenSpec.ofChange treeProvesSpec)) treeProvesCard

/-- THE SECOND FORM's CARD OF 'familychecklaw07.TreeInitials'. -/
def treeInitialsUptoCard : Claim7 := { stood := { row := treeInitialsUptoRow, standIns := [], harness := (true, "f759c9638f632831f8187a1768ab8e8bf9a3cdc6a751d9cb365ba184581ff823"), looks := false }, kinds := [], alts := [], laidByText := true, laidKinds := [.listed, .data], laidTests := true, laidLooks := .later }
def TreeInitialsUptoCardSaid : Prop := Claim7.holds Tryz.pinned (.plain (OpenSpec.upto treeInitialsSpec)) treeInitialsUptoCard

/-- THE SECOND FORM's CARD OF 'familychecklaw07.TreeBads'. -/
def treeBadsUptoCard : Claim7 := { stood := { row := treeBadsUptoRow, standIns := [], harness := (true, "f759c9638f632831f8187a1768ab8e8bf9a3cdc6a751d9cb365ba184581ff823"), looks := false }, kinds := [], alts := [], laidByText := true, laidKinds := [.listed, .data], laidTests := true, laidLooks := .later }
def TreeBadsUptoCardSaid : Prop := Claim7.holds Tryz.pinned (.plain (OpenSpec.upto treeBadsSpec)) treeBadsUptoCard

/-- THE SECOND FORM's CARD OF 'familychecklaw07.TreeInitialMeans'. -/
def treeInitialMeansUptoCard : Claim7 := { stood := { row := treeInitialMeansUptoRow, standIns := [], harness := (true, "f759c9638f632831f8187a1768ab8e8bf9a3cdc6a751d9cb365ba184581ff823"), looks := false }, kinds := [], alts := [], laidByText := true, laidKinds := [.listed, .data], laidTests := true, laidLooks := .later }
def TreeInitialMeansUptoCardSaid : Prop := Claim7.holds Tryz.pinned (.plain (OpenSpec.upto treeInitialMeansSpec)) treeInitialMeansUptoCard

/-- THE SECOND FORM's CARD OF 'familychecklaw07.TreeForwards'. -/
def treeForwardsUptoCard : Claim7 := { stood := { row := treeForwardsUptoRow, standIns := [], harness := (true, "f759c9638f632831f8187a1768ab8e8bf9a3cdc6a751d9cb365ba184581ff823"), looks := false }, kinds := [], alts := [], laidByText := true, laidKinds := [.listed, .data], laidTests := true, laidLooks := .later }
def TreeForwardsUptoCardSaid : Prop := Claim7.holds Tryz.pinned (.plain (OpenSpec.upto treeForwardsSpec)) treeForwardsUptoCard

/-- THE SECOND FORM's CARD OF 'familychecklaw07.TreeForwardCloses'. -/
def treeForwardClosesUptoCard : Claim7 := { stood := { row := treeForwardClosesUptoRow, standIns := [], harness := (true, "f759c9638f632831f8187a1768ab8e8bf9a3cdc6a751d9cb365ba184581ff823"), looks := false }, kinds := [], alts := [], laidByText := true, laidKinds := [.listed, .data], laidTests := true, laidLooks := .later }
def TreeForwardClosesUptoCardSaid : Prop := Claim7.holds Tryz.pinned (.plain (OpenSpec.upto treeForwardClosesSpec)) treeForwardClosesUptoCard

/-- THE SECOND FORM's CARD OF 'familychecklaw07.TreeProves'. -/
def treeProvesUptoCard : Claim7 := { stood := { row := treeProvesUptoRow, standIns := [], harness := (true, "f759c9638f632831f8187a1768ab8e8bf9a3cdc6a751d9cb365ba184581ff823"), looks := false }, kinds := [], alts := [], laidByText := true, laidKinds := [.listed, .data], laidTests := true, laidLooks := .later }
def TreeProvesUptoCardSaid : Prop := Claim7.holds Tryz.pinned (.plain (OpenSpec.upto treeProvesSpec)) treeProvesUptoCard
end Rows
end Go.Proofs.YtldimfobgpmlaaaGreatDoor
