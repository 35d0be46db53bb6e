/-
  DERIVED. GIVEN WITH THE SEED: THE CARDS: each row of YtgbkeciimddpnaaGreatDoorRows.lean that lists a variable, with what it lists TIED to the program's text (the seventh form; the later family's looks); each row that meets fmt, with fmt's text TOLD by the authors' own Lean function (tested against real Go, not proved from fmt's source: count such statements apart). THE CARD IS WHAT COUNTS. Prove the row's statement (the work); the ties are given (YtgbkeciimddpnaaGreatDoorTie.lean); close each card by the builder's one call (the guide's Derived/Test/ToyasCard.lean, 'card_holds'). Laid BY PROGRAM, IN A SANDBOX (cutbox-door.mjs). By AI agents, Wed Nov 11 2026. No macro, syntax, notation, axiom, sorry.
-/
import Derived.Test.YtgbkeciimddpnaaGreatDoorRows
import GoSem.ClaimSeven
namespace Go.Proofs.YtgbkeciimddpnaaGreatDoor
namespace Rows

/-- THE TIED CARD OF 'sallyportlaw03.AddrRanges'. -/
def addrRangesCard : Claim7 := { stood := { row := addrRangesRow, standIns := [], harness := (true, "0a48ae440cccd95b33c518d7e5323d1ff96ce8daebe8f1aa48037e1155e86203"), looks := true }, kinds := [], alts := [], laidByText := true, laidKinds := [.data, .data, .data, .data, .sentinel, .sentinel, .pinned], laidTests := true, laidLooks := .later }
def AddrRangesCardSaid : Prop := Claim7.holds Tryz.pinned (.plain (OpenSpec.ofChange addrRangesSpec)) addrRangesCard

/-- THE TIED CARD OF 'sallyportlaw03.AddrRangeBack'. -/
def addrRangeBackCard : Claim7 := { stood := { row := addrRangeBackRow, standIns := [], harness := (true, "0a48ae440cccd95b33c518d7e5323d1ff96ce8daebe8f1aa48037e1155e86203"), looks := true }, kinds := [], alts := [], laidByText := true, laidKinds := [.data, .data, .data, .data, .sentinel, .sentinel, .pinned], laidTests := true, laidLooks := .later }
def AddrRangeBackCardSaid : Prop := Claim7.holds Tryz.pinned (.plain (OpenSpec.ofChange addrRangeBackSpec)) addrRangeBackCard

/-- THE SECOND FORM's CARD OF 'sallyportlaw03.AddrRanges'. -/
def addrRangesUptoCard : Claim7 := { stood := { row := addrRangesUptoRow, standIns := [], harness := (true, "0a48ae440cccd95b33c518d7e5323d1ff96ce8daebe8f1aa48037e1155e86203"), looks := true }, kinds := [], alts := [], laidByText := true, laidKinds := [.data, .data, .data, .data, .sentinel, .sentinel, .pinned], laidTests := true, laidLooks := .later }
def AddrRangesUptoCardSaid : Prop := Claim7.holds Tryz.pinned (.plain (OpenSpec.upto addrRangesSpec)) addrRangesUptoCard

/-- THE SECOND FORM's CARD OF 'sallyportlaw03.AddrRangeBack'. -/
def addrRangeBackUptoCard : Claim7 := { stood := { row := addrRangeBackUptoRow, standIns := [], harness := (true, "0a48ae440cccd95b33c518d7e5323d1ff96ce8daebe8f1aa48037e1155e86203"), looks := true }, kinds := [], alts := [], laidByText := true, laidKinds := [.data, .data, .data, .data, .sentinel, .sentinel, .pinned], laidTests := true, laidLooks := .later }
def AddrRangeBackUptoCardSaid : Prop := Claim7.holds Tryz.pinned (.plain (OpenSpec.upto addrRangeBackSpec)) addrRangeBackUptoCard
end Rows
end Go.Proofs.YtgbkeciimddpnaaGreatDoor
