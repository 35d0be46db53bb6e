/-
  DERIVED. GIVEN WITH THE SEED: THE CARDS: each row of YtgbkeciimddpnaaDoorRows.lean that lists a variable, with what it lists TIED to the program's text (the seventh form; the later family's looks); each row that meets fmt, with fmt's text TOLD by the authors' own Lean function (tested against real Go, not proved from fmt's source: count such statements apart). THE CARD IS WHAT COUNTS. Prove the row's statement (the work); the ties are given (YtgbkeciimddpnaaDoorTie.lean); close each card by the builder's one call (the guide's Derived/Test/ToyasCard.lean, 'card_holds'). Laid BY PROGRAM, IN A SANDBOX (cutbox-door.mjs). By AI agents, Wed Nov 11 2026. No macro, syntax, notation, axiom, sorry.
-/
import Derived.Test.YtgbkeciimddpnaaDoorRows
import GoSem.ClaimSeven
namespace Go.Proofs.YtgbkeciimddpnaaDoor
namespace Rows

/-- THE TIED CARD OF 'sallyportlaw03.AddrFour'. -/
def addrFourCard : Claim7 := { stood := { row := addrFourRow, standIns := [], harness := (true, "9ef7d1d9a0f14261eb81a8dff9a74e46ccc75745b988f2bb1ed94fa6cdd360b9"), looks := true }, kinds := [], alts := [], laidByText := true, laidKinds := [.data, .data, .data, .data, .sentinel, .sentinel, .pinned], laidTests := true, laidLooks := .later }
def AddrFourCardSaid : Prop := Claim7.holds Tryd.pinned (.plain (OpenSpec.ofChange addrFourSpec)) addrFourCard

/-- THE TIED CARD OF 'sallyportlaw03.AddrTexts'. -/
def addrTextsCard : Claim7 := { stood := { row := addrTextsRow, standIns := [], harness := (true, "9ef7d1d9a0f14261eb81a8dff9a74e46ccc75745b988f2bb1ed94fa6cdd360b9"), looks := true }, kinds := [], alts := [], laidByText := true, laidKinds := [.data, .data, .data, .data, .sentinel, .sentinel, .pinned], laidTests := true, laidLooks := .later }
def AddrTextsCardSaid : Prop := Claim7.holds Tryd.pinned (.plain (OpenSpec.ofChange addrTextsSpec)) addrTextsCard

/-- THE TIED CARD OF 'sallyportlaw03.AddrBack'. -/
def addrBackCard : Claim7 := { stood := { row := addrBackRow, standIns := [], harness := (true, "9ef7d1d9a0f14261eb81a8dff9a74e46ccc75745b988f2bb1ed94fa6cdd360b9"), looks := true }, kinds := [], alts := [], laidByText := true, laidKinds := [.data, .data, .data, .data, .sentinel, .sentinel, .pinned], laidTests := true, laidLooks := .later }
def AddrBackCardSaid : Prop := Claim7.holds Tryd.pinned (.plain (OpenSpec.ofChange addrBackSpec)) addrBackCard

/-- THE SECOND FORM's CARD OF 'sallyportlaw03.AddrFour'. -/
def addrFourUptoCard : Claim7 := { stood := { row := addrFourUptoRow, standIns := [], harness := (true, "9ef7d1d9a0f14261eb81a8dff9a74e46ccc75745b988f2bb1ed94fa6cdd360b9"), looks := true }, kinds := [], alts := [], laidByText := true, laidKinds := [.data, .data, .data, .data, .sentinel, .sentinel, .pinned], laidTests := true, laidLooks := .later }
def AddrFourUptoCardSaid : Prop := Claim7.holds Tryd.pinned (.plain (OpenSpec.upto addrFourSpec)) addrFourUptoCard

/-- THE SECOND FORM's CARD OF 'sallyportlaw03.AddrTexts'. -/
def addrTextsUptoCard : Claim7 := { stood := { row := addrTextsUptoRow, standIns := [], harness := (true, "9ef7d1d9a0f14261eb81a8dff9a74e46ccc75745b988f2bb1ed94fa6cdd360b9"), looks := true }, kinds := [], alts := [], laidByText := true, laidKinds := [.data, .data, .data, .data, .sentinel, .sentinel, .pinned], laidTests := true, laidLooks := .later }
def AddrTextsUptoCardSaid : Prop := Claim7.holds Tryd.pinned (.plain (OpenSpec.upto addrTextsSpec)) addrTextsUptoCard

/-- THE SECOND FORM's CARD OF 'sallyportlaw03.AddrBack'. -/
def addrBackUptoCard : Claim7 := { stood := { row := addrBackUptoRow, standIns := [], harness := (true, "9ef7d1d9a0f14261eb81a8dff9a74e46ccc75745b988f2bb1ed94fa6cdd360b9"), looks := true }, kinds := [], alts := [], laidByText := true, laidKinds := [.data, .data, .data, .data, .sentinel, .sentinel, .pinned], laidTests := true, laidLooks := .later }
def AddrBackUptoCardSaid : Prop := Claim7.holds Tryd.pinned (.plain (OpenSpec.upto addrBackSpec)) addrBackUptoCard
end Rows
end Go.Proofs.YtgbkeciimddpnaaDoor
