/-
The law AddrFour: for every input that can be read, the call returns true, and each argument reads behind it as it read before.
Conditions: none but the row's own.
-/
import Derived.Test.YtgbkeciimddpnaaDoorRows
import Derived.Test.YtgbkeciimddpnaaDoorOpen
import Derived.Test.YtgbkeciimddpnaaDoorAddrFour
import Derived.Test.YtgbkeciimddpnaaDoorAddrVars
import Derived.WalkKit
import Derived.ProofKit
import Derived.OpenShut
import Derived.ShutString
import Derived.ChangeOld
import Derived.Below
import Derived.SizedLaws
import Derived.HandedShaped
import Derived.Lay
import Derived.LaidOnce
import Derived.LaidLaws
import Derived.SevenTiedAt
import Derived.Test.YtgbkeciimddpnaaDoorTie
import Derived.Test.YtgbkeciimddpnaaDoorCards
namespace Go.Proofs.YtgbkeciimddpnaaDoor.addrFour
open Go.ChangeShapes Go.WideShapes Go.ChangeAt Go.RowKit Go.Proofs.YtgbkeciimddpnaaDoor.Open Go.Proofs.YtgbkeciimddpnaaDoorW.PrintWords Go.Proofs.YtgbkeciimddpnaaDoor.Print
open Go.ChangeMaps (open_string shut_string)
set_option linter.unusedVariables false
theorem own : ownKnob Tryd.prog.godebug = none := by kernel_rfl
theorem laidOut : laidOutB Tryd.prog = true := by kernel_rfl
def Wo22 : Int → Prop := (fun n => (Lit.int .u32 n).wf = true)
theorem o22 : Opens Tryd.prog 22 (Kd.int .u32) Wo22 := opens_int Tryd.underlying22 (by kernel_rfl)
set_option maxRecDepth 100000 in
theorem lifted (os : Os) (started : os.Started) (H : Type) (enc : TypeId × Value → H) :
    ReturnsInHanded {} Tryd.checked os 3 .any (fun w args => (Rows.addrFourSpec.pre enc Tryd.prog Tryd.f3 Rows.addrFourRow.domain false w args ∧ laidMetH Tryd.prog Rows.addrFourRow.laid w) ∧ sizedMet enc Tryd.prog Tryd.f3 (OpenSpec.ofChange Rows.addrFourSpec) false w args) (Rows.addrFourSpec.post enc Tryd.prog Tryd.f3 false true false false) := by
  refine returnsInHanded_shaped_and (C := Tryd.checked) (X := fun w _ => laidMetH Tryd.prog Rows.addrFourRow.laid w) (fun _ _ _ hh h => h.of_heap hh) own started (by kernel_rfl) Tryd.func3
    (ChangeSpec.witness_shaped (enc := enc) (C := Tryd.checked) (os := os) (X := fun w _ => laidMetH Tryd.prog Rows.addrFourRow.laid w) false (World.laidAll Tryd.prog os Rows.addrFourRow.laid) #[.int .u32 0] 8 (World.laidAll_os _ _ _)
      (World.shaped_of_ZipB (by kernel_rfl) (by kernel_rfl)) (by kernel_rfl) (by kernel_rfl) (by kernel_rfl)
      (by rw [MakeChecks.laidMetH_plain _ _ _ (by kernel_rfl)]; exact laidMet_laidAll _ (by kernel_rfl) (by kernel_rfl))) ?_
  intro W base args ds gs before hval0 hW hcnd hsz0 hsh hL _
  have hsz : (DataW.weightsEach Tryd.prog (Tryd.f3.params.toList ++ Rows.addrFourSpec.plain.varTypes Tryd.prog) (ds ++ gs)).all (· ≤ reachBytes) = true := hsz0
  have hval : ∀ (j : Nat) t v, Tryd.f3.params[j]? = some t → args[j]? = some v → Value.okWide Tryd.prog W .any base t v := hval0
  have hW' := hW
  obtain ⟨p, q, hA0, hV, rfl, hfz, hnd⟩ := hW
  have hA : DataW.TrodAll enc Tryd.prog W 0 (fun _ => true) true Tryd.f3.params.toList args.toList ds p := hA0
  rw [Tryd.params3] at hA hval hsz
  obtain ⟨v0, vs0, d0, ds0, p0, q0, hargs, rfl, rfl, h0, r0⟩ := trodAll_cons hA
  obtain ⟨rfl, rfl, rfl⟩ := trodAll_nil r0
  obtain rfl : args = #[v0] := by cases args; simp_all
  obtain ⟨rfl, rfl⟩ := trodVars_none hV
  have k0 := h0
  have lt0 : ∀ x ∈ p0, x.block < W.heap.size := by obtain ⟨m, hm⟩ := k0; exact DataW.trod_lt m _ _ _ hm
  obtain ⟨x0, rfl, _, _, w0⟩ := open_int Tryd.underlying22 (hval 0 22 v0 rfl rfl) h0
  rw [MakeChecks.laidMetH_plain _ _ _ (by kernel_rfl)] at hL
  have hV_ := vars_of_laid hL hsh
  clear hA0 hval0 hsz0 hsz
  have hcall := addrFour_card x0 W w0 hV_
  refine Calls.mono (show Calls Tryd.prog 3 #[.int .u32 x0] W _ from hcall) fun e W' ⟨he, bel⟩ => ?_
  subst he
  exact ⟨_, rfl, _, _, _, [], _, [], hW', trodAll_mk1 (shut_bool Tryd.underlying4 _), (trodAll_cons_mk (Below.trod laidOut (by kernel_rfl) (of_decide_eq_true (by kernel_rfl)) k0 bel lt0) trodAll_mk0), rfl, bel.frame _, fun h => by cases h⟩
theorem over : Rows.addrFourRow.holds Tryd.pinned (OpenSpec.ofChange Rows.addrFourSpec) :=
  OpenClaim.holds_of_wide 3 Tryd.f3 rfl rfl rfl rfl rfl rfl rfl ⟨rfl, rfl, rfl, rfl, rfl⟩ rfl rfl rfl rfl rfl (by kernel_rfl) Tryd.func3 (by kernel_rfl)
    (of_decide_eq_true (by kernel_rfl)) (by unfold Func.isWrapper; first | (rw [if_pos (by decide +kernel)]; kernel_rfl) | (rw [if_neg (by decide +kernel)]; exact ⟨rfl, rfl⟩))
    (fun os started H enc _ => lifted os started H enc)
theorem proved : Rows.AddrFourSaid := over
set_option maxRecDepth 100000 in
theorem card_proved : Rows.AddrFourCardSaid :=
  Claim7.holds_tied_plain_at .later [] [.data, .data, .data, .data, .sentinel, .sentinel, .pinned] true (true, "9ef7d1d9a0f14261eb81a8dff9a74e46ccc75745b988f2bb1ed94fa6cdd360b9") true over (fun _ h => by cases h) (by kernel_rfl) (fun _ h => by cases h) addrFour_row_tie rfl ⟨rfl, rfl⟩ (by kernel_rfl) rfl
    (fun f fn hf hfn => by
      obtain rfl : f = 3 := Option.some.inj ((show Tryd.prog.funcNamed "sallyport/sallyportlaw03.AddrFour" = some 3 by kernel_rfl).symm.trans hf) |>.symm
      obtain rfl : fn = Tryd.f3 := (Option.some.inj (Tryd.func3.symm.trans hfn)).symm
      exact ⟨by kernel_rfl, fun j t ht => by
        rw [Tryd.params3] at ht
        have hm : t ∈ [22] := by
          have := Array.mem_of_getElem? ht
          simp at this
          simp [this]
        have hall : ([22].all fun u => !Tryd.prog.wantsStandIn u) = true := by kernel_rfl
        exact (show Tryd.prog.wantsStandIn t = false by simpa using List.all_eq_true.1 hall t hm)⟩)
    (by kernel_rfl)
#print axioms card_proved
end Go.Proofs.YtgbkeciimddpnaaDoor.addrFour
namespace Go.Proofs.YtgbkeciimddpnaaDoor
/-- The card, under a short name, for the claim. -/
theorem addrFour_holds : Rows.AddrFourCardSaid := addrFour.card_proved
end Go.Proofs.YtgbkeciimddpnaaDoor
