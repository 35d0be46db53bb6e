/-
  DERIVED. GIVEN WITH THE SEED: THE CARDS: each row of YteocdfahhndfoaaDoorRows.lean that lists a variable, with what it lists TIED to the program's text (the seventh form; the later family's looks); each row that meets fmt, with fmt's text TOLD by the authors' own Lean function (tested against real Go, not proved from fmt's source: count such statements apart). THE CARD IS WHAT COUNTS. Prove the row's statement (the work); the ties are given (YteocdfahhndfoaaDoorTie.lean); close each card by the builder's one call (the guide's Derived/Test/ToyasCard.lean, 'card_holds'). Laid BY PROGRAM, IN A SANDBOX (cutbox-door.mjs). By AI agents, Wed Nov 11 2026. No macro, syntax, notation, axiom, sorry.
-/
import Derived.Test.YteocdfahhndfoaaDoorRows
import GoSem.ClaimSeven
namespace Go.Proofs.YteocdfahhndfoaaDoor
namespace Rows

/-- THE TIED CARD OF 'sallyportlaw06.LangNames'. -/
def langNamesCard : Claim7 := { stood := { row := langNamesRow, standIns := [], harness := (true, "350ff6c712d28730f2858e98420001d1f0025f18a53167c8d8885a45f257faf0"), looks := false }, kinds := [], alts := [], laidByText := true, laidKinds := [.data, .data, .data], laidTests := true, laidLooks := .later }
def LangNamesCardSaid : Prop := Claim7.holds Tryd.pinned (.plain (OpenSpec.ofChange langNamesSpec)) langNamesCard

/-- THE SECOND FORM's CARD OF 'sallyportlaw06.LangNames'. -/
def langNamesUptoCard : Claim7 := { stood := { row := langNamesUptoRow, standIns := [], harness := (true, "350ff6c712d28730f2858e98420001d1f0025f18a53167c8d8885a45f257faf0"), looks := false }, kinds := [], alts := [], laidByText := true, laidKinds := [.data, .data, .data], laidTests := true, laidLooks := .later }
def LangNamesUptoCardSaid : Prop := Claim7.holds Tryd.pinned (.plain (OpenSpec.upto langNamesSpec)) langNamesUptoCard
end Rows
end Go.Proofs.YteocdfahhndfoaaDoor
