/-
The law AddrRangeBack: for every input that can be read, the call returns true, and each argument reads behind it as it read before.
Conditions: none but the row's own.
-/
import Derived.Test.YtgbkeciimddpnaaGreatDoorRows
import Derived.Test.YtgbkeciimddpnaaGreatDoorOpen
import Derived.Test.YtgbkeciimddpnaaGreatDoorAddrRangeBack
import Derived.Test.YtgbkeciimddpnaaGreatDoorAddrVars
import Derived.WalkKit
import Derived.ProofKit
import Derived.OpenShut
import Derived.ShutString
import Derived.ChangeOld
import Derived.Below
import Derived.SizedLaws
import Derived.HandedShaped
import Derived.Lay
import Derived.LaidOnce
import Derived.LaidLaws
import Derived.SevenTiedAt
import Derived.Test.YtgbkeciimddpnaaGreatDoorTie
import Derived.Test.YtgbkeciimddpnaaGreatDoorCards
namespace Go.Proofs.YtgbkeciimddpnaaGreatDoor.addrRangeBack
open Go.ChangeShapes Go.WideShapes Go.ChangeAt Go.RowKit Go.Proofs.YtgbkeciimddpnaaGreatDoor.Open Go.Proofs.YtgbkeciimddpnaaGreatDoorW.PrintWords Go.Proofs.YtgbkeciimddpnaaGreatDoor.Print
open Go.ChangeMaps (open_string shut_string)
set_option linter.unusedVariables false
theorem own : ownKnob Tryz.prog.godebug = none := by kernel_rfl
theorem laidOut : laidOutB Tryz.prog = true := by kernel_rfl
def Wo22 : Int → Prop := (fun n => (Lit.int .u64 n).wf = true)
theorem o22 : Opens Tryz.prog 22 (Kd.int .u64) Wo22 := opens_int Tryz.underlying22 (by kernel_rfl)
def Wo24t : (Int × Int) → Prop := (fun x => Wo22 x.1 ∧ Wo22 x.2)
theorem o24t : Opens Tryz.prog 24 (Kd.pair (Kd.int .u64) (Kd.int .u64)) Wo24t := opens_struct Tryz.underlying24 (by kernel_rfl) (opensF_cons o22 rfl rfl (opensF_one o22 rfl))
def Wo26t : ((Int × Int) × (Int × Int)) → Prop := (fun x => Wo24t x.1 ∧ Wo24t x.2)
theorem o26t : Opens Tryz.prog 26 (Kd.pair (Kd.pair (Kd.int .u64) (Kd.int .u64)) (Kd.pair (Kd.int .u64) (Kd.int .u64))) Wo26t := opens_struct Tryz.underlying26 (by kernel_rfl) (opensF_cons o24t rfl rfl (opensF_one o24t rfl))
set_option maxRecDepth 100000 in
theorem lifted (os : Os) (started : os.Started) (H : Type) (enc : TypeId × Value → H) :
    ReturnsInHanded {} Tryz.checked os 4 .any (fun w args => (Rows.addrRangeBackSpec.pre enc Tryz.prog Tryz.f4 Rows.addrRangeBackRow.domain false w args ∧ laidMetH Tryz.prog Rows.addrRangeBackRow.laid w) ∧ sizedMet enc Tryz.prog Tryz.f4 (OpenSpec.ofChange Rows.addrRangeBackSpec) false w args) (Rows.addrRangeBackSpec.post enc Tryz.prog Tryz.f4 false true false false) := by
  refine returnsInHanded_shaped_and (C := Tryz.checked) (X := fun w _ => laidMetH Tryz.prog Rows.addrRangeBackRow.laid w) (fun _ _ _ hh h => h.of_heap hh) own started (by kernel_rfl) Tryz.func4
    (ChangeSpec.witness_shaped (enc := enc) (C := Tryz.checked) (os := os) (X := fun w _ => laidMetH Tryz.prog Rows.addrRangeBackRow.laid w) false (World.laidAll Tryz.prog os Rows.addrRangeBackRow.laid) #[.agg #[.int .u64 0, .int .u64 0, .int .u64 0, .int .u64 0]] 8 (World.laidAll_os _ _ _)
      (World.shaped_of_ZipB (by kernel_rfl) (by kernel_rfl)) (by kernel_rfl) (by kernel_rfl) (by kernel_rfl)
      (by rw [MakeChecks.laidMetH_plain _ _ _ (by kernel_rfl)]; exact laidMet_laidAll _ (by kernel_rfl) (by kernel_rfl))) ?_
  intro W base args ds gs before hval0 hW hcnd hsz0 hsh hL _
  have hsz : (DataW.weightsEach Tryz.prog (Tryz.f4.params.toList ++ Rows.addrRangeBackSpec.plain.varTypes Tryz.prog) (ds ++ gs)).all (· ≤ reachBytes) = true := hsz0
  have hval : ∀ (j : Nat) t v, Tryz.f4.params[j]? = some t → args[j]? = some v → Value.okWide Tryz.prog W .any base t v := hval0
  have hW' := hW
  obtain ⟨p, q, hA0, hV, rfl, hfz, hnd⟩ := hW
  have hA : DataW.TrodAll enc Tryz.prog W 0 (fun _ => true) true Tryz.f4.params.toList args.toList ds p := hA0
  rw [Tryz.params4] at hA hval hsz
  obtain ⟨v0, vs0, d0, ds0, p0, q0, hargs, rfl, rfl, h0, r0⟩ := trodAll_cons hA
  obtain ⟨rfl, rfl, rfl⟩ := trodAll_nil r0
  obtain rfl : args = #[v0] := by cases args; simp_all
  obtain ⟨rfl, rfl⟩ := trodVars_none hV
  have k0 := h0
  have lt0 : ∀ x ∈ p0, x.block < W.heap.size := by obtain ⟨m, hm⟩ := k0; exact DataW.trod_lt m _ _ _ hm
  obtain ⟨x0, cs0, rfl, ⟨_, _, rfl, ⟨_, _, rfl, rfl, rfl⟩, ⟨_, _, rfl, rfl, rfl⟩⟩, w0⟩ := arg_struct o26t Tryz.underlying26 (hval 0 26 v0 rfl rfl) h0 hsz (j := 0) rfl rfl
  rw [MakeChecks.laidMetH_plain _ _ _ (by kernel_rfl)] at hL
  have hV_ := vars_of_laid hL hsh
  clear hA0 hval0 hsz0 hsz
  have hcall := Ranges.addrRangeBack_card x0.1.1 x0.1.2 x0.2.1 x0.2.2 W w0 hV_
  refine Calls.mono (show Calls Tryz.prog 4 #[.agg #[.int .u64 x0.1.1, .int .u64 x0.1.2, .int .u64 x0.2.1, .int .u64 x0.2.2]] W _ from hcall) fun e W' ⟨he, bel⟩ => ?_
  subst he
  exact ⟨_, rfl, _, _, _, [], _, [], hW', trodAll_mk1 (shut_bool Tryz.underlying4 _), (trodAll_cons_mk (Below.trod laidOut (by kernel_rfl) (of_decide_eq_true (by kernel_rfl)) k0 bel lt0) trodAll_mk0), rfl, bel.frame _, fun h => by cases h⟩
theorem over : Rows.addrRangeBackRow.holds Tryz.pinned (OpenSpec.ofChange Rows.addrRangeBackSpec) :=
  OpenClaim.holds_of_wide 4 Tryz.f4 rfl rfl rfl rfl rfl rfl rfl ⟨rfl, rfl, rfl, rfl, rfl⟩ rfl rfl rfl rfl rfl (by kernel_rfl) Tryz.func4 (by kernel_rfl)
    (of_decide_eq_true (by kernel_rfl)) (by unfold Func.isWrapper; first | (rw [if_pos (by decide +kernel)]; kernel_rfl) | (rw [if_neg (by decide +kernel)]; exact ⟨rfl, rfl⟩))
    (fun os started H enc _ => lifted os started H enc)
theorem proved : Rows.AddrRangeBackSaid := over
set_option maxRecDepth 100000 in
theorem card_proved : Rows.AddrRangeBackCardSaid :=
  Claim7.holds_tied_plain_at .later [] [.data, .data, .data, .data, .sentinel, .sentinel, .pinned] true (true, "0a48ae440cccd95b33c518d7e5323d1ff96ce8daebe8f1aa48037e1155e86203") true over (fun _ h => by cases h) (by kernel_rfl) (fun _ h => by cases h) addrRangeBack_row_tie rfl ⟨rfl, rfl⟩ (by kernel_rfl) rfl
    (fun f fn hf hfn => by
      obtain rfl : f = 4 := Option.some.inj ((show Tryz.prog.funcNamed "sallyport/sallyportlaw03.AddrRangeBack" = some 4 by kernel_rfl).symm.trans hf) |>.symm
      obtain rfl : fn = Tryz.f4 := (Option.some.inj (Tryz.func4.symm.trans hfn)).symm
      exact ⟨by kernel_rfl, fun j t ht => by
        rw [Tryz.params4] at ht
        have hm : t ∈ [26] := by
          have := Array.mem_of_getElem? ht
          simp at this
          simp [this]
        have hall : ([26].all fun u => !Tryz.prog.wantsStandIn u) = true := by kernel_rfl
        exact (show Tryz.prog.wantsStandIn t = false by simpa using List.all_eq_true.1 hall t hm)⟩)
    (by kernel_rfl)
#print axioms card_proved
end Go.Proofs.YtgbkeciimddpnaaGreatDoor.addrRangeBack
namespace Go.Proofs.YtgbkeciimddpnaaGreatDoor
/-- The card, under a short name, for the claim. -/
theorem addrRangeBack_holds : Rows.AddrRangeBackCardSaid := addrRangeBack.card_proved
end Go.Proofs.YtgbkeciimddpnaaGreatDoor
