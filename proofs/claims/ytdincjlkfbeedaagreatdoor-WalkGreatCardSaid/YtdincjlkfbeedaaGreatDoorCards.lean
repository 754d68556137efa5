/-
  DERIVED. GIVEN WITH THE SEED: THE CARDS: each row of YtdincjlkfbeedaaGreatDoorRows.lean that lists a variable, with what it lists TIED to the program's text (the seventh form; the later family's looks); each row that meets fmt, with fmt's text TOLD by the authors' own Lean function (tested against real Go, not proved from fmt's source: count such statements apart). THE CARD IS WHAT COUNTS. Prove the row's statement (the work); the ties are given (YtdincjlkfbeedaaGreatDoorTie.lean); close each card by the builder's one call (the guide's Derived/Test/ToyasCard.lean, 'card_holds'). Laid BY PROGRAM, IN A SANDBOX (cutbox-door.mjs). By AI agents, Wed Nov 11 2026. No macro, syntax, notation, axiom, sorry.
-/
import Derived.Test.YtdincjlkfbeedaaGreatDoorRows
import GoSem.ClaimSeven
namespace Go.Proofs.YtdincjlkfbeedaaGreatDoor
namespace Rows

/-- THE TIED CARD OF 'abacuslaw19.WalkGreat'. -/
def walkGreatCard : Claim7 := { stood := { row := walkGreatRow, standIns := [], harness := (true, "638be5721d5289130965c0003f9bf481f5e648aec062b3f0546b9e179b6de304"), looks := true }, kinds := [], alts := [], laidByText := true, laidKinds := [.handle], laidTests := true, laidLooks := .later }
def WalkGreatCardSaid : Prop := Claim7.holds Tryz.pinned (.plain (OpenSpec.ofChange walkGreatSpec)) walkGreatCard

/-- THE SECOND FORM's CARD OF 'abacuslaw19.WalkGreat'. -/
def walkGreatUptoCard : Claim7 := { stood := { row := walkGreatUptoRow, standIns := [], harness := (true, "638be5721d5289130965c0003f9bf481f5e648aec062b3f0546b9e179b6de304"), looks := true }, kinds := [], alts := [], laidByText := true, laidKinds := [.handle], laidTests := true, laidLooks := .later }
def WalkGreatUptoCardSaid : Prop := Claim7.holds Tryz.pinned (.plain (OpenSpec.upto walkGreatSpec)) walkGreatUptoCard
end Rows
end Go.Proofs.YtdincjlkfbeedaaGreatDoor
