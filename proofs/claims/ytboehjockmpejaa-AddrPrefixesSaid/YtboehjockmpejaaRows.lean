/-
  No cell of these rows narrows 'for every input' (looked for: loops, veiled, ifaces, maps, wideKeys, modest, calm, conditions, laid).
  DERIVED. THE GIVEN ROWS OF THIS SEAT. 4 by the template 'for every input the law returns true; each argument reads behind the call as it read before'; 0 by the template 'total and deterministic' (their statements: YtboehjockmpejaaTotals.lean).
  GIVEN WITH THE SEED: the statements are not yours to turn. If you find one false, say at which input.
  Laid BY PROGRAM, IN A SANDBOX (cutbox-rows.mjs): the forced cells as the released guide's own fill.sh prints them over the translation 1f6e7dc114973834… (all of the seat's roots in one cut). By AI agents, Wed Nov 11 2026. No macro, syntax, notation, axiom, sorry.
-/
import Derived.Test.YtboehjockmpejaaChecked
import GoSem.Claim
import GoSem.ClaimJoined
import GoSem.ClaimMapViews
import Derived.JoinedTies
import Derived.KernelRfl
namespace Go.Proofs.Ytboehjockmpejaa
/- THE CELL 'sum', in the pinned program and in every row, IS THE sha256 OF THE DUMP (.gsa) THAT YtboehjockmpejaaProg.lean LOADS. Nothing in Lean hashes anything: it is a label: what it is worth is what the hold of that sum in a sandbox is worth. -/
noncomputable def Try.pinned : Pinned := { name := "ytboehjockmpejaa", sum := "1f6e7dc1149738346ddca3fa5e569756f188ed8b789ab490cb90083561e712cb", checked := Try.checked }
namespace Rows
def none {H : Type} : Left H := { results := [], args := [] }

/-- 'sallyportlaw03.AddrOrder': WHATEVER THE INPUT: true; the input reads as it did. -/
def addrOrderSpec : ChangeSpec := { name := "addrOrder", fn := fun _ => fun
  | [d1, d2, d3] => { results := [.lit (.bool true)], args := [d1, d2, d3] }
  | _ => none }
def addrOrderRow : OpenClaim := { program := "ytboehjockmpejaa", sum := "1f6e7dc1149738346ddca3fa5e569756f188ed8b789ab490cb90083561e712cb", func := "sallyport/sallyportlaw03.AddrOrder", spec := "addrOrder", apart := false }
def AddrOrderSaid : Prop := addrOrderRow.holds Try.pinned (OpenSpec.ofChange addrOrderSpec)

/-- ITS FALSE NEIGHBOUR: 'it returns false'. Refute it at one input. -/
def addrOrderWrong : ChangeSpec := { name := "addrOrder", fn := fun _ => fun
  | [d1, d2, d3] => { results := [.lit (.bool false)], args := [d1, d2, d3] }
  | _ => none }
def AddrOrderWrongFalsely : Prop := addrOrderRow.holds Try.pinned (OpenSpec.ofChange addrOrderWrong)

/-- 'sallyportlaw03.AddrPrefixes': WHATEVER THE INPUT: true; the input reads as it did. -/
def addrPrefixesSpec : ChangeSpec := { name := "addrPrefixes", fn := fun _ => fun
  | [d1, d2, d3, d4] => { results := [.lit (.bool true)], args := [d1, d2, d3, d4] }
  | _ => none }
def addrPrefixesRow : OpenClaim := { program := "ytboehjockmpejaa", sum := "1f6e7dc1149738346ddca3fa5e569756f188ed8b789ab490cb90083561e712cb", func := "sallyport/sallyportlaw03.AddrPrefixes", spec := "addrPrefixes", apart := false }
def AddrPrefixesSaid : Prop := addrPrefixesRow.holds Try.pinned (OpenSpec.ofChange addrPrefixesSpec)

/-- ITS FALSE NEIGHBOUR: 'it returns false'. Refute it at one input. -/
def addrPrefixesWrong : ChangeSpec := { name := "addrPrefixes", fn := fun _ => fun
  | [d1, d2, d3, d4] => { results := [.lit (.bool false)], args := [d1, d2, d3, d4] }
  | _ => none }
def AddrPrefixesWrongFalsely : Prop := addrPrefixesRow.holds Try.pinned (OpenSpec.ofChange addrPrefixesWrong)

/-- 'sallyportlaw03.AddrSteps': WHATEVER THE INPUT: true; the input reads as it did. -/
def addrStepsSpec : ChangeSpec := { name := "addrSteps", fn := fun _ => fun
  | [d1, d2] => { results := [.lit (.bool true)], args := [d1, d2] }
  | _ => none }
def addrStepsRow : OpenClaim := { program := "ytboehjockmpejaa", sum := "1f6e7dc1149738346ddca3fa5e569756f188ed8b789ab490cb90083561e712cb", func := "sallyport/sallyportlaw03.AddrSteps", spec := "addrSteps", inPlace := ["math/bits.Add64", "math/bits.Sub64"], apart := false }
def AddrStepsSaid : Prop := addrStepsRow.holds Try.pinned (OpenSpec.ofChange addrStepsSpec)

/-- ITS FALSE NEIGHBOUR: 'it returns false'. Refute it at one input. -/
def addrStepsWrong : ChangeSpec := { name := "addrSteps", fn := fun _ => fun
  | [d1, d2] => { results := [.lit (.bool false)], args := [d1, d2] }
  | _ => none }
def AddrStepsWrongFalsely : Prop := addrStepsRow.holds Try.pinned (OpenSpec.ofChange addrStepsWrong)

/-- 'sallyportlaw03.AddrNumbers': WHATEVER THE INPUT: true; the input reads as it did. -/
def addrNumbersSpec : ChangeSpec := { name := "addrNumbers", fn := fun _ => fun
  | [d1, d2, d3, d4] => { results := [.lit (.bool true)], args := [d1, d2, d3, d4] }
  | _ => none }
def addrNumbersRow : OpenClaim := { program := "ytboehjockmpejaa", sum := "1f6e7dc1149738346ddca3fa5e569756f188ed8b789ab490cb90083561e712cb", func := "sallyport/sallyportlaw03.AddrNumbers", spec := "addrNumbers", inPlace := ["math/bits.Add64", "math/bits.Sub64"], apart := false }
def AddrNumbersSaid : Prop := addrNumbersRow.holds Try.pinned (OpenSpec.ofChange addrNumbersSpec)

/-- ITS FALSE NEIGHBOUR: 'it returns false'. Refute it at one input. -/
def addrNumbersWrong : ChangeSpec := { name := "addrNumbers", fn := fun _ => fun
  | [d1, d2, d3, d4] => { results := [.lit (.bool false)], args := [d1, d2, d3, d4] }
  | _ => none }
def AddrNumbersWrongFalsely : Prop := addrNumbersRow.holds Try.pinned (OpenSpec.ofChange addrNumbersWrong)

/- THE SECOND FORM. 'bulk': how many values and letters a reading holds, each counted each time it is reached (what is shared counts as often as it is met; a slice's spare places count too). A statement '..UptoSaid' is the law's where the arguments, and the package variables that the reading takes, are together of bulk at most 1048576: NARROWER than '..Said'. Prove '..Said' where nothing that the law and all that it calls make is longer than what came in: it says more and counts as full. Else prove '..UptoSaid'. A law counts once. -/
mutual
def uptoBulk {H : Type} : DataW H → Nat
  | .lit (.string bytes) => bytes.length + 1
  | .lit _ => 1
  | .nil => 1
  | .ptr d => uptoBulk d + 1
  | .slice elems spare => uptoBulkAll elems + uptoBulkAll spare + 1
  | .agg parts => uptoBulkAll parts + 1
  | .iface _ d => uptoBulk d + 1
  | .map entries => uptoBulkEntries entries + 1
  | .held _ => 1
def uptoBulkAll {H : Type} : List (DataW H) → Nat
  | [] => 0
  | d :: r => uptoBulk d + uptoBulkAll r
def uptoBulkEntries {H : Type} : List (Lit × DataW H) → Nat
  | [] => 0
  | x :: r => uptoBulkEntry x + uptoBulkEntries r
def uptoBulkEntry {H : Type} : Lit × DataW H → Nat
  | (.string bytes, d) => bytes.length + uptoBulk d + 1
  | (_, d) => uptoBulk d + 1
 end
def uptoSmall : (H : Type) → List (DataW H) → Bool := fun _ ds => decide (uptoBulkAll ds ≤ 1048576)
def OpenSpec.upto (s : _root_.Go.ChangeSpec) : _root_.Go.OpenSpec := { _root_.Go.OpenSpec.ofChange s with cond := some uptoSmall }

/-- 'sallyportlaw03.AddrOrder', WHERE WHAT IT READS IS OF BULK AT MOST 1048576: true; the input reads as it did. -/
def addrOrderUptoRow : OpenClaim := { program := "ytboehjockmpejaa", sum := "1f6e7dc1149738346ddca3fa5e569756f188ed8b789ab490cb90083561e712cb", func := "sallyport/sallyportlaw03.AddrOrder", spec := "addrOrder", apart := false, narrowed := true }
def AddrOrderUptoSaid : Prop := addrOrderUptoRow.holds Try.pinned (OpenSpec.upto addrOrderSpec)

/-- 'sallyportlaw03.AddrPrefixes', WHERE WHAT IT READS IS OF BULK AT MOST 1048576: true; the input reads as it did. -/
def addrPrefixesUptoRow : OpenClaim := { program := "ytboehjockmpejaa", sum := "1f6e7dc1149738346ddca3fa5e569756f188ed8b789ab490cb90083561e712cb", func := "sallyport/sallyportlaw03.AddrPrefixes", spec := "addrPrefixes", apart := false, narrowed := true }
def AddrPrefixesUptoSaid : Prop := addrPrefixesUptoRow.holds Try.pinned (OpenSpec.upto addrPrefixesSpec)

/-- 'sallyportlaw03.AddrSteps', WHERE WHAT IT READS IS OF BULK AT MOST 1048576: true; the input reads as it did. -/
def addrStepsUptoRow : OpenClaim := { program := "ytboehjockmpejaa", sum := "1f6e7dc1149738346ddca3fa5e569756f188ed8b789ab490cb90083561e712cb", func := "sallyport/sallyportlaw03.AddrSteps", spec := "addrSteps", inPlace := ["math/bits.Add64", "math/bits.Sub64"], apart := false, narrowed := true }
def AddrStepsUptoSaid : Prop := addrStepsUptoRow.holds Try.pinned (OpenSpec.upto addrStepsSpec)

/-- 'sallyportlaw03.AddrNumbers', WHERE WHAT IT READS IS OF BULK AT MOST 1048576: true; the input reads as it did. -/
def addrNumbersUptoRow : OpenClaim := { program := "ytboehjockmpejaa", sum := "1f6e7dc1149738346ddca3fa5e569756f188ed8b789ab490cb90083561e712cb", func := "sallyport/sallyportlaw03.AddrNumbers", spec := "addrNumbers", inPlace := ["math/bits.Add64", "math/bits.Sub64"], apart := false, narrowed := true }
def AddrNumbersUptoSaid : Prop := addrNumbersUptoRow.holds Try.pinned (OpenSpec.upto addrNumbersSpec)

end Rows
end Go.Proofs.Ytboehjockmpejaa
