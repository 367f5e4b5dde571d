/-
  DERIVED. GIVEN WITH THE SEED: THE CARDS: each row of YtfoakjdnopljmaaGreatDoorRows.lean that lists a variable, with what it lists TIED to the program's text (the seventh form; the later family's looks); each row that meets fmt, with fmt's text TOLD by the authors' own Lean function (tested against real Go, not proved from fmt's source: count such statements apart). THE CARD IS WHAT COUNTS. Prove the row's statement (the work); the ties are given (YtfoakjdnopljmaaGreatDoorTie.lean); close each card by the builder's one call (the guide's Derived/Test/ToyasCard.lean, 'card_holds'). Laid BY PROGRAM, IN A SANDBOX (cutbox-door.mjs). By AI agents, Wed Nov 11 2026. No macro, syntax, notation, axiom, sorry.
-/
import Derived.Test.YtfoakjdnopljmaaGreatDoorRows
import GoSem.ClaimSeven
namespace Go.Proofs.YtfoakjdnopljmaaGreatDoor
namespace Rows

/-- THE TIED CARD OF 'vulgatelaw17.BufferPlays'. -/
def bufferPlaysCard : Claim7 := { stood := { row := bufferPlaysRow, standIns := [], harness := (true, "6a9b39d45a701d745e92d35611263ce1a8d622fbc6b0f96ce0884a52c7847a4b"), looks := false }, kinds := [], alts := [], laidByText := true, laidKinds := [.data, .pinned], laidTests := true, laidLooks := .later }
def BufferPlaysCardSaid : Prop := Claim7.holds Tryz.pinned (.plain (OpenSpec.ofChange bufferPlaysSpec)) bufferPlaysCard

/-- THE TIED CARD OF 'vulgatelaw16.IntentPlays'. -/
def intentPlaysCard : Claim7 := { stood := { row := intentPlaysRow, standIns := [], harness := (true, "6a9b39d45a701d745e92d35611263ce1a8d622fbc6b0f96ce0884a52c7847a4b"), looks := false }, kinds := [], alts := [], laidByText := true, laidKinds := [.data, .pinned], laidTests := true, laidLooks := .later }
def IntentPlaysCardSaid : Prop := Claim7.holds Tryz.pinned (.plain (OpenSpec.ofChange intentPlaysSpec)) intentPlaysCard

/-- THE SECOND FORM's CARD OF 'vulgatelaw17.BufferPlays'. -/
def bufferPlaysUptoCard : Claim7 := { stood := { row := bufferPlaysUptoRow, standIns := [], harness := (true, "6a9b39d45a701d745e92d35611263ce1a8d622fbc6b0f96ce0884a52c7847a4b"), looks := false }, kinds := [], alts := [], laidByText := true, laidKinds := [.data, .pinned], laidTests := true, laidLooks := .later }
def BufferPlaysUptoCardSaid : Prop := Claim7.holds Tryz.pinned (.plain (OpenSpec.upto bufferPlaysSpec)) bufferPlaysUptoCard

/-- THE SECOND FORM's CARD OF 'vulgatelaw16.IntentPlays'. -/
def intentPlaysUptoCard : Claim7 := { stood := { row := intentPlaysUptoRow, standIns := [], harness := (true, "6a9b39d45a701d745e92d35611263ce1a8d622fbc6b0f96ce0884a52c7847a4b"), looks := false }, kinds := [], alts := [], laidByText := true, laidKinds := [.data, .pinned], laidTests := true, laidLooks := .later }
def IntentPlaysUptoCardSaid : Prop := Claim7.holds Tryz.pinned (.plain (OpenSpec.upto intentPlaysSpec)) intentPlaysUptoCard
end Rows
end Go.Proofs.YtfoakjdnopljmaaGreatDoor
