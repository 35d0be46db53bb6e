/-
The law AddrRanges: for every input that can be read, the call returns true, and each argument reads behind it as it read before.
Conditions: none but the row's own.
-/
import Derived.Test.YtgbkeciimddpnaaGreatDoorRows
import Derived.Test.YtgbkeciimddpnaaGreatDoorOpen
import Derived.Test.YtgbkeciimddpnaaGreatDoorAddrRanges
import Derived.Test.YtgbkeciimddpnaaGreatDoorAddrVars
import Derived.WalkKit
import Derived.ProofKit
import Derived.OpenShut
import Derived.ShutString
import Derived.ChangeOld
import Derived.Below
import Derived.SizedLaws
import Derived.HandedShaped
import Derived.Lay
import Derived.LaidOnce
import Derived.LaidLaws
import Derived.SevenTiedAt
import Derived.Test.YtgbkeciimddpnaaGreatDoorTie
import Derived.Test.YtgbkeciimddpnaaGreatDoorCards
namespace Go.Proofs.YtgbkeciimddpnaaGreatDoor.addrRanges
open Go.ChangeShapes Go.WideShapes Go.ChangeAt Go.RowKit Go.Proofs.YtgbkeciimddpnaaGreatDoor.Open Go.Proofs.YtgbkeciimddpnaaGreatDoorW.PrintWords Go.Proofs.YtgbkeciimddpnaaGreatDoor.Print
open Go.ChangeMaps (open_string shut_string)
set_option linter.unusedVariables false
theorem own : ownKnob Tryz.prog.godebug = none := by kernel_rfl
theorem laidOut : laidOutB Tryz.prog = true := by kernel_rfl
def Wo22 : Int → Prop := (fun n => (Lit.int .u64 n).wf = true)
theorem o22 : Opens Tryz.prog 22 (Kd.int .u64) Wo22 := opens_int Tryz.underlying22 (by kernel_rfl)
def Wo24t : (Int × Int) → Prop := (fun x => Wo22 x.1 ∧ Wo22 x.2)
theorem o24t : Opens Tryz.prog 24 (Kd.pair (Kd.int .u64) (Kd.int .u64)) Wo24t := opens_struct Tryz.underlying24 (by kernel_rfl) (opensF_cons o22 rfl rfl (opensF_one o22 rfl))
def Wo26t : ((Int × Int) × (Int × Int)) → Prop := (fun x => Wo24t x.1 ∧ Wo24t x.2)
theorem o26t : Opens Tryz.prog 26 (Kd.pair (Kd.pair (Kd.int .u64) (Kd.int .u64)) (Kd.pair (Kd.int .u64) (Kd.int .u64))) Wo26t := opens_struct Tryz.underlying26 (by kernel_rfl) (opensF_cons o24t rfl rfl (opensF_one o24t rfl))
def Wo3 : Int → Prop := (fun n => (Lit.int .i64 n).wf = true)
theorem o3 : Opens Tryz.prog 3 (Kd.int .i64) Wo3 := opens_int Tryz.underlying3 (by kernel_rfl)
def Wo9 : ByteArray → Prop := (fun s => s.size ≤ 140737488351232)
theorem o9 : Opens Tryz.prog 9 Kd.string Wo9 := opens_string Tryz.underlying9 (by kernel_rfl)
set_option maxRecDepth 100000 in
theorem lifted (os : Os) (started : os.Started) (H : Type) (enc : TypeId × Value → H) :
    ReturnsInHanded {} Tryz.checked os 3 .any (fun w args => (Rows.addrRangesSpec.pre enc Tryz.prog Tryz.f3 Rows.addrRangesRow.domain false w args ∧ laidMetH Tryz.prog Rows.addrRangesRow.laid w) ∧ sizedMet enc Tryz.prog Tryz.f3 (OpenSpec.ofChange Rows.addrRangesSpec) false w args) (Rows.addrRangesSpec.post enc Tryz.prog Tryz.f3 false true false false) := by
  refine returnsInHanded_shaped_and (C := Tryz.checked) (X := fun w _ => laidMetH Tryz.prog Rows.addrRangesRow.laid w) (fun _ _ _ hh h => h.of_heap hh) own started (by kernel_rfl) Tryz.func3
    (ChangeSpec.witness_shaped (enc := enc) (C := Tryz.checked) (os := os) (X := fun w _ => laidMetH Tryz.prog Rows.addrRangesRow.laid w) false (World.laidAll Tryz.prog os Rows.addrRangesRow.laid) #[.agg #[.int .u64 0, .int .u64 0, .int .u64 0, .int .u64 0], .agg #[.int .u64 0, .int .u64 0], .int .i64 0, .string ByteArray.empty] 8 (World.laidAll_os _ _ _)
      (World.shaped_of_ZipB (by kernel_rfl) (by kernel_rfl)) (by kernel_rfl) (by kernel_rfl) (by kernel_rfl)
      (by rw [MakeChecks.laidMetH_plain _ _ _ (by kernel_rfl)]; exact laidMet_laidAll _ (by kernel_rfl) (by kernel_rfl))) ?_
  intro W base args ds gs before hval0 hW hcnd hsz0 hsh hL _
  have hsz : (DataW.weightsEach Tryz.prog (Tryz.f3.params.toList ++ Rows.addrRangesSpec.plain.varTypes Tryz.prog) (ds ++ gs)).all (· ≤ reachBytes) = true := hsz0
  have hval : ∀ (j : Nat) t v, Tryz.f3.params[j]? = some t → args[j]? = some v → Value.okWide Tryz.prog W .any base t v := hval0
  have hW' := hW
  obtain ⟨p, q, hA0, hV, rfl, hfz, hnd⟩ := hW
  have hA : DataW.TrodAll enc Tryz.prog W 0 (fun _ => true) true Tryz.f3.params.toList args.toList ds p := hA0
  rw [Tryz.params3] at hA hval hsz
  obtain ⟨v0, vs0, d0, ds0, p0, q0, hargs, rfl, rfl, h0, r0⟩ := trodAll_cons hA
  obtain ⟨v1, vs1, d1, ds1, p1, q1, rfl, rfl, rfl, h1, r1⟩ := trodAll_cons r0
  obtain ⟨v2, vs2, d2, ds2, p2, q2, rfl, rfl, rfl, h2, r2⟩ := trodAll_cons r1
  obtain ⟨v3, vs3, d3, ds3, p3, q3, rfl, rfl, rfl, h3, r3⟩ := trodAll_cons r2
  obtain ⟨rfl, rfl, rfl⟩ := trodAll_nil r3
  obtain rfl : args = #[v0, v1, v2, v3] := by cases args; simp_all
  obtain ⟨rfl, rfl⟩ := trodVars_none hV
  have k0 := h0
  have lt0 : ∀ x ∈ p0, x.block < W.heap.size := by obtain ⟨m, hm⟩ := k0; exact DataW.trod_lt m _ _ _ hm
  obtain ⟨x0, cs0, rfl, ⟨_, _, rfl, ⟨_, _, rfl, rfl, rfl⟩, ⟨_, _, rfl, rfl, rfl⟩⟩, w0⟩ := arg_struct o26t Tryz.underlying26 (hval 0 26 v0 rfl rfl) h0 hsz (j := 0) rfl rfl
  have k1 := h1
  have lt1 : ∀ x ∈ p1, x.block < W.heap.size := by obtain ⟨m, hm⟩ := k1; exact DataW.trod_lt m _ _ _ hm
  obtain ⟨x1, cs1, rfl, ⟨_, _, rfl, rfl, rfl⟩, w1⟩ := arg_struct o24t Tryz.underlying24 (hval 1 24 v1 rfl rfl) h1 hsz (j := 1) rfl rfl
  have k2 := h2
  have lt2 : ∀ x ∈ p2, x.block < W.heap.size := by obtain ⟨m, hm⟩ := k2; exact DataW.trod_lt m _ _ _ hm
  obtain ⟨x2, rfl, _, _, w2⟩ := open_int Tryz.underlying3 (hval 2 3 v2 rfl rfl) h2
  have k3 := h3
  have lt3 : ∀ x ∈ p3, x.block < W.heap.size := by obtain ⟨m, hm⟩ := k3; exact DataW.trod_lt m _ _ _ hm
  obtain ⟨x3, rfl, w3⟩ := arg_string Tryz.underlying9 (hval 3 9 v3 rfl rfl) h3 hsz (j := 3) rfl rfl
  rw [MakeChecks.laidMetH_plain _ _ _ (by kernel_rfl)] at hL
  have hV_ := vars_of_laid hL hsh
  clear hA0 hval0 hsz0 hsz
  have hcall := Ranges.addrRanges_card x0.1.1 x0.1.2 x0.2.1 x0.2.2 x1.1 x1.2 x2 x3 W w0 w1 w2 w3 hV_
  refine Calls.mono (show Calls Tryz.prog 3 #[.agg #[.int .u64 x0.1.1, .int .u64 x0.1.2, .int .u64 x0.2.1, .int .u64 x0.2.2], .agg #[.int .u64 x1.1, .int .u64 x1.2], .int .i64 x2, .string x3] W _ from hcall) fun e W' ⟨he, bel⟩ => ?_
  subst he
  exact ⟨_, rfl, _, _, _, [], _, [], hW', trodAll_mk1 (shut_bool Tryz.underlying4 _), (trodAll_cons_mk (Below.trod laidOut (by kernel_rfl) (of_decide_eq_true (by kernel_rfl)) k0 bel lt0) (trodAll_cons_mk (Below.trod laidOut (by kernel_rfl) (of_decide_eq_true (by kernel_rfl)) k1 bel lt1) (trodAll_cons_mk (Below.trod laidOut (by kernel_rfl) (of_decide_eq_true (by kernel_rfl)) k2 bel lt2) (trodAll_cons_mk (Below.trod laidOut (by kernel_rfl) (of_decide_eq_true (by kernel_rfl)) k3 bel lt3) trodAll_mk0)))), rfl, bel.frame _, fun h => by cases h⟩
theorem over : Rows.addrRangesRow.holds Tryz.pinned (OpenSpec.ofChange Rows.addrRangesSpec) :=
  OpenClaim.holds_of_wide 3 Tryz.f3 rfl rfl rfl rfl rfl rfl rfl ⟨rfl, rfl, rfl, rfl, rfl⟩ rfl rfl rfl rfl rfl (by kernel_rfl) Tryz.func3 (by kernel_rfl)
    (of_decide_eq_true (by kernel_rfl)) (by unfold Func.isWrapper; first | (rw [if_pos (by decide +kernel)]; kernel_rfl) | (rw [if_neg (by decide +kernel)]; exact ⟨rfl, rfl⟩))
    (fun os started H enc _ => lifted os started H enc)
theorem proved : Rows.AddrRangesSaid := over
set_option maxRecDepth 100000 in
theorem card_proved : Rows.AddrRangesCardSaid :=
  Claim7.holds_tied_plain_at .later [] [.data, .data, .data, .data, .sentinel, .sentinel, .pinned] true (true, "0a48ae440cccd95b33c518d7e5323d1ff96ce8daebe8f1aa48037e1155e86203") true over (fun _ h => by cases h) (by kernel_rfl) (fun _ h => by cases h) addrRanges_row_tie rfl ⟨rfl, rfl⟩ (by kernel_rfl) rfl
    (fun f fn hf hfn => by
      obtain rfl : f = 3 := Option.some.inj ((show Tryz.prog.funcNamed "sallyport/sallyportlaw03.AddrRanges" = some 3 by kernel_rfl).symm.trans hf) |>.symm
      obtain rfl : fn = Tryz.f3 := (Option.some.inj (Tryz.func3.symm.trans hfn)).symm
      exact ⟨by kernel_rfl, fun j t ht => by
        rw [Tryz.params3] at ht
        have hm : t ∈ [26, 24, 3, 9] := by
          have := Array.mem_of_getElem? ht
          simp at this
          simp [this]
        have hall : ([26, 24, 3, 9].all fun u => !Tryz.prog.wantsStandIn u) = true := by kernel_rfl
        exact (show Tryz.prog.wantsStandIn t = false by simpa using List.all_eq_true.1 hall t hm)⟩)
    (by kernel_rfl)
#print axioms card_proved
end Go.Proofs.YtgbkeciimddpnaaGreatDoor.addrRanges
namespace Go.Proofs.YtgbkeciimddpnaaGreatDoor
/-- The card, under a short name, for the claim. -/
theorem addrRanges_holds : Rows.AddrRangesCardSaid := addrRanges.card_proved
end Go.Proofs.YtgbkeciimddpnaaGreatDoor
