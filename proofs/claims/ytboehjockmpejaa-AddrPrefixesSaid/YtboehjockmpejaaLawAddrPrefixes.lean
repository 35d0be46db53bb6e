/-
The law AddrPrefixes: for every input that can be read, the call returns true, and each argument reads behind it as it read before.
Conditions: none but the row's own.
-/
import Derived.Test.YtboehjockmpejaaRows
import Derived.Test.YtboehjockmpejaaOpen
import Derived.Test.YtboehjockmpejaaAddrPrefixes
import Derived.WalkKit
import Derived.ProofKit
import Derived.OpenShut
import Derived.ShutString
import Derived.ChangeOld
import Derived.Below
import Derived.SizedLaws
namespace Go.Proofs.Ytboehjockmpejaa.addrPrefixes
open Go.ChangeShapes Go.WideShapes Go.ChangeAt Go.RowKit Go.Proofs.Ytboehjockmpejaa.Open Go.Proofs.YtboehjockmpejaaW.PrintWords Go.Proofs.Ytboehjockmpejaa.Print
open Go.ChangeMaps (open_string shut_string)
set_option linter.unusedVariables false
theorem own : ownKnob Try.prog.godebug = none := by kernel_rfl
theorem laidOut : laidOutB Try.prog = true := by kernel_rfl
def Wo22 : Int → Prop := (fun n => (Lit.int .u64 n).wf = true)
theorem o22 : Opens Try.prog 22 (Kd.int .u64) Wo22 := opens_int Try.underlying22 (by kernel_rfl)
def Wo24t : (Int × Int) → Prop := (fun x => Wo22 x.1 ∧ Wo22 x.2)
theorem o24t : Opens Try.prog 24 (Kd.pair (Kd.int .u64) (Kd.int .u64)) Wo24t := opens_struct Try.underlying24 (by kernel_rfl) (opensF_cons o22 rfl rfl (opensF_one o22 rfl))
def Wo3 : Int → Prop := (fun n => (Lit.int .i64 n).wf = true)
theorem o3 : Opens Try.prog 3 (Kd.int .i64) Wo3 := opens_int Try.underlying3 (by kernel_rfl)
set_option maxRecDepth 100000 in
theorem lifted (os : Os) (started : os.Started) (H : Type) (enc : TypeId × Value → H) :
    ReturnsInHanded {} Try.checked os 4 .any (Rows.addrPrefixesSpec.pre6 enc Try.prog Try.f4 Rows.addrPrefixesRow.domain false) (Rows.addrPrefixesSpec.post enc Try.prog Try.f4 false true false false) := by
  refine returnsInHanded_of_change_sized (C := Try.checked) own started (by kernel_rfl) Try.func4
    (ChangeSpec.witness6 (enc := enc) (C := Try.checked) false ⟨#[], #[.agg #[.int .u64 0, .int .u64 0], .agg #[.int .u64 0, .int .u64 0], .int .i64 0, .int .i64 0], []⟩ 8 (by kernel_rfl) (by kernel_rfl) (by kernel_rfl) (by kernel_rfl)) ?_
  intro W base args ds gs before hval0 hW hcnd hsz0 _
  have hsz : (DataW.weightsEach Try.prog (Try.f4.params.toList ++ Rows.addrPrefixesSpec.plain.varTypes Try.prog) (ds ++ gs)).all (· ≤ reachBytes) = true := hsz0
  have hval : ∀ (j : Nat) t v, Try.f4.params[j]? = some t → args[j]? = some v → Value.okWide Try.prog W .any base t v := hval0
  have hW' := hW
  obtain ⟨p, q, hA0, hV, rfl, hfz, hnd⟩ := hW
  have hA : DataW.TrodAll enc Try.prog W 0 (fun _ => true) true Try.f4.params.toList args.toList ds p := hA0
  rw [Try.params4] at hA hval hsz
  obtain ⟨v0, vs0, d0, ds0, p0, q0, hargs, rfl, rfl, h0, r0⟩ := trodAll_cons hA
  obtain ⟨v1, vs1, d1, ds1, p1, q1, rfl, rfl, rfl, h1, r1⟩ := trodAll_cons r0
  obtain ⟨v2, vs2, d2, ds2, p2, q2, rfl, rfl, rfl, h2, r2⟩ := trodAll_cons r1
  obtain ⟨v3, vs3, d3, ds3, p3, q3, rfl, rfl, rfl, h3, r3⟩ := trodAll_cons r2
  obtain ⟨rfl, rfl, rfl⟩ := trodAll_nil r3
  obtain rfl : args = #[v0, v1, v2, v3] := by cases args; simp_all
  obtain ⟨rfl, rfl⟩ := trodVars_none hV
  have k0 := h0
  have lt0 : ∀ x ∈ p0, x.block < W.heap.size := by obtain ⟨m, hm⟩ := k0; exact DataW.trod_lt m _ _ _ hm
  obtain ⟨x0, cs0, rfl, ⟨_, _, rfl, rfl, rfl⟩, w0⟩ := arg_struct o24t Try.underlying24 (hval 0 24 v0 rfl rfl) h0 hsz (j := 0) rfl rfl
  have k1 := h1
  have lt1 : ∀ x ∈ p1, x.block < W.heap.size := by obtain ⟨m, hm⟩ := k1; exact DataW.trod_lt m _ _ _ hm
  obtain ⟨x1, cs1, rfl, ⟨_, _, rfl, rfl, rfl⟩, w1⟩ := arg_struct o24t Try.underlying24 (hval 1 24 v1 rfl rfl) h1 hsz (j := 1) rfl rfl
  have k2 := h2
  have lt2 : ∀ x ∈ p2, x.block < W.heap.size := by obtain ⟨m, hm⟩ := k2; exact DataW.trod_lt m _ _ _ hm
  obtain ⟨x2, rfl, _, _, w2⟩ := open_int Try.underlying3 (hval 2 3 v2 rfl rfl) h2
  have k3 := h3
  have lt3 : ∀ x ∈ p3, x.block < W.heap.size := by obtain ⟨m, hm⟩ := k3; exact DataW.trod_lt m _ _ _ hm
  obtain ⟨x3, rfl, _, _, w3⟩ := open_int Try.underlying3 (hval 3 3 v3 rfl rfl) h3
  clear hA0 hval0 hsz0 hsz
  have hcall := addrPrefixes_true x0.1 x0.2 x1.1 x1.2 x2 x3 W w0 w1 w2 w3
  refine Calls.mono (show Calls Try.prog 4 #[.agg #[.int .u64 x0.1, .int .u64 x0.2], .agg #[.int .u64 x1.1, .int .u64 x1.2], .int .i64 x2, .int .i64 x3] W _ from hcall) fun e W' ⟨he, bel⟩ => ?_
  subst he
  exact ⟨_, rfl, _, _, _, [], _, [], hW', trodAll_mk1 (shut_bool Try.underlying4 _), (trodAll_cons_mk (Below.trod laidOut (by kernel_rfl) (of_decide_eq_true (by kernel_rfl)) k0 bel lt0) (trodAll_cons_mk (Below.trod laidOut (by kernel_rfl) (of_decide_eq_true (by kernel_rfl)) k1 bel lt1) (trodAll_cons_mk (Below.trod laidOut (by kernel_rfl) (of_decide_eq_true (by kernel_rfl)) k2 bel lt2) (trodAll_cons_mk (Below.trod laidOut (by kernel_rfl) (of_decide_eq_true (by kernel_rfl)) k3 bel lt3) trodAll_mk0)))), rfl, bel.frame _, fun h => by cases h⟩
theorem over : Rows.addrPrefixesRow.holds Try.pinned (OpenSpec.ofChange Rows.addrPrefixesSpec) :=
  OpenClaim.holds_of_wide 4 Try.f4 rfl rfl rfl rfl rfl rfl rfl ⟨rfl, rfl, rfl, rfl, rfl⟩ rfl rfl rfl rfl rfl (by kernel_rfl) Try.func4 (by kernel_rfl)
    (of_decide_eq_true (by kernel_rfl)) (by unfold Func.isWrapper; first | (rw [if_pos (by decide +kernel)]; kernel_rfl) | (rw [if_neg (by decide +kernel)]; exact ⟨rfl, rfl⟩))
    (fun os started H enc _ => lifted os started H enc)
theorem proved : Rows.AddrPrefixesSaid := over
#print axioms proved
end Go.Proofs.Ytboehjockmpejaa.addrPrefixes
namespace Go.Proofs.Ytboehjockmpejaa
/-- The row, under a short name, for the claim. -/
theorem addrPrefixes_holds : Rows.AddrPrefixesSaid := addrPrefixes.proved
end Go.Proofs.Ytboehjockmpejaa
