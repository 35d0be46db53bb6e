/-
The two configurations of the law LangNames: what Check tells of them.
Conditions: the cells as the law lays them.
-/
import Derived.Test.YteocdfahhndfoaaDoorCheck
import Derived.Shelf.RegionOpenPlain
import Derived.Deep.RegionHeld3
namespace Go.Proofs.YteocdfahhndfoaaDoor.Print
open Go.RowKit Go.Proofs.YteocdfahhndfoaaDoorW.PrintWords Go.Proofs.YteocdfahhndfoaaDoor.Plain
set_option maxRecDepth 8192 in
theorem checkRules_nil (v0 v1 v2 v3 v4 v5 v7 : Value) (c : Nat) (w : World) :
    Calls Tryd.prog 12 #[.agg #[v0, v1, v2, v3, v4, v5, .slice none 0 c, v7]] w fun e w' => e = .returned (.int .i64 0) ∧ Below w.heap.size w w' := by
  go_enter Tryd.func12, Tryd.ntmps12
  go_wp2_with fail
  have HB0 : Below w.heap.size w (w.alloc (Obj.cells #[v0, v1, v2, v3, v4, v5, .slice none 0 c, v7] 30)) := (Below.refl _ _).alloc (Nat.le_refl _) _
  generalize (w.alloc (Obj.cells #[v0, v1, v2, v3, v4, v5, .slice none 0 c, v7] 30)) = wa at *
  go_loopg [12] 0 (fun gg s wr => s = .int .i64 0 ∧ Below w.heap.size w wr)
  case atStart => exact ⟨rfl, HB0⟩
  case round =>
    obtain ⟨rfl, HB⟩ := hrel
    go_wp2_with fail
    go_ret
    exact ⟨rfl, HB⟩

/-- A limit of the law's, by its name. -/
def limOf (s : ByteArray) : S32 := ⟨s, 0, 1, false⟩
theorem more_limOf (s : ByteArray) : moreLimit (limOf s) = 0 := rfl
theorem lim_C1 (W : World) (b : Nat) (s : ByteArray) (h0 : W.cell? ⟨b, 0, none⟩ = some (.string s)) (h1 : W.cell? ⟨b, 1, none⟩ = some (.int .i64 0)) (h2 : W.cell? ⟨b, 2, none⟩ = some (.int .i64 1)) (h3 : W.cell? ⟨b, 3, none⟩ = some (.bool false)) :
    Kd.C k32 W (some ⟨b, 0, none⟩) [limOf s].length [limOf s] := by
  refine ⟨rfl, by simp, fun _ => ⟨_, rfl, fun j p hj => ?_⟩⟩
  have hlt : j < 1 := by
    rcases Nat.lt_or_ge j 1 with h | h
    · exact h
    · rw [List.getElem?_eq_none (by simpa using h)] at hj; cases hj
  obtain rfl : j = 0 := by omega
  cases hj
  refine ⟨_, rfl, k32_mk W (limOf s), fun i u hi => ?_⟩
  have hi4 : i < 4 := by
    rcases Nat.lt_or_ge i 4 with h | h
    · exact h
    · rw [List.getElem?_eq_none (by simpa using h)] at hi; cases hi
  obtain rfl | rfl | rfl | rfl : i = 0 ∨ i = 1 ∨ i = 2 ∨ i = 3 := by omega
  · cases hi; exact h0
  · cases hi; exact h1
  · cases hi; exact h2
  · cases hi; exact h3
theorem lim_C2 (W : World) (b : Nat) (s t : ByteArray) (h0 : W.cell? ⟨b, 0, none⟩ = some (.string s)) (h1 : W.cell? ⟨b, 1, none⟩ = some (.int .i64 0)) (h2 : W.cell? ⟨b, 2, none⟩ = some (.int .i64 1)) (h3 : W.cell? ⟨b, 3, none⟩ = some (.bool false))
    (h4 : W.cell? ⟨b, 4, none⟩ = some (.string t)) (h5 : W.cell? ⟨b, 5, none⟩ = some (.int .i64 0)) (h6 : W.cell? ⟨b, 6, none⟩ = some (.int .i64 1)) (h7 : W.cell? ⟨b, 7, none⟩ = some (.bool false)) :
    Kd.C k32 W (some ⟨b, 0, none⟩) [limOf s, limOf t].length [limOf s, limOf t] := by
  refine ⟨rfl, by simp, fun _ => ⟨_, rfl, fun j p hj => ?_⟩⟩
  have hlt : j < 2 := by
    rcases Nat.lt_or_ge j 2 with h | h
    · exact h
    · rw [List.getElem?_eq_none (by simpa using h)] at hj; cases hj
  obtain rfl | rfl : j = 0 ∨ j = 1 := by omega
  · cases hj
    refine ⟨_, rfl, k32_mk W (limOf s), fun i u hi => ?_⟩
    have hi4 : i < 4 := by
      rcases Nat.lt_or_ge i 4 with h | h
      · exact h
      · rw [List.getElem?_eq_none (by simpa using h)] at hi; cases hi
    obtain rfl | rfl | rfl | rfl : i = 0 ∨ i = 1 ∨ i = 2 ∨ i = 3 := by omega
    · cases hi; exact h0
    · cases hi; exact h1
    · cases hi; exact h2
    · cases hi; exact h3
  · cases hj
    refine ⟨_, rfl, k32_mk W (limOf t), fun i u hi => ?_⟩
    have hi4 : i < 4 := by
      rcases Nat.lt_or_ge i 4 with h | h
      · exact h
      · rw [List.getElem?_eq_none (by simpa using h)] at hi; cases hi
    obtain rfl | rfl | rfl | rfl : i = 0 ∨ i = 1 ∨ i = 2 ∨ i = 3 := by omega
    · cases hi; exact h4
    · cases hi; exact h5
    · cases hi; exact h6
    · cases hi; exact h7

/-- What is wrong with the two limits. -/
def cErr (s t : ByteArray) : Int := checkL (fun y : S32 => y.f0.toList) moreLimit [] [limOf s, limOf t]
theorem cErr_is (s t : ByteArray) : cErr s t = if nameB s.toList = false then 62 else if nameB t.toList = false then 62 else if s.toList = t.toList then 63 else 0 := by
  have e1 : ∀ n : ByteArray, (limOf n).f0 = n := fun _ => rfl
  unfold cErr
  simp only [checkL, more_limOf, e1]
  unfold nameErr
  cases h1 : nameB s.toList with
  | false => simp
  | true =>
    cases h2 : nameB t.toList with
    | false => simp
    | true =>
      by_cases h3 : s.toList = t.toList
      · simp [h3]
      · simp [h3]
theorem checkC_calls (b c : Nat) (s t : ByteArray) (w : World) (hc : 2 ≤ c) (h0 : w.cell? ⟨b, 0, none⟩ = some (.string s)) (h1 : w.cell? ⟨b, 1, none⟩ = some (.int .i64 0)) (h2 : w.cell? ⟨b, 2, none⟩ = some (.int .i64 1)) (h3 : w.cell? ⟨b, 3, none⟩ = some (.bool false))
    (h4 : w.cell? ⟨b, 4, none⟩ = some (.string t)) (h5 : w.cell? ⟨b, 5, none⟩ = some (.int .i64 0)) (h6 : w.cell? ⟨b, 6, none⟩ = some (.int .i64 1)) (h7 : w.cell? ⟨b, 7, none⟩ = some (.bool false)) :
    Calls Tryd.prog 4 #[.agg #[.slice none 0 0, .slice none 0 0, .slice none 0 0, .slice (some ⟨b, 0, none⟩) 2 c, .slice none 0 0, .slice none 0 0, .slice none 0 0, .int .i64 2]] w fun e w' => e = .returned (.int .i64 (cErr s t)) ∧ Below w.heap.size w w' := by
  have := check_calls none none none (some ⟨b, 0, none⟩) none none none 0 0 0 2 0 0 0 0 0 0 c 0 0 0 2 0 0 0 (cErr s t) 0 0 0 w (by omega) (by omega) (by omega) (by omega) (by omega) (by omega) (by omega)
    (fun W _ => checkZones_nil _ _ _ _ _ _ _ _ W) (fun W _ => checkObjects_nil _ _ _ _ _ _ _ _ W) (fun W _ => checkServices_nil _ _ _ _ _ _ _ _ W)
    (fun W hb => checkLimits_calls _ _ _ _ _ _ _ (some ⟨b, 0, none⟩) c [limOf s, limOf t] W (Kd.C_below (lim_C2 w b s t h0 h1 h2 h3 h4 h5 h6 h7) hb) (by simp) hc)
    (fun W _ => checkRoutes_nil _ _ _ _ _ _ _ _ W) (fun W _ => checkNats_nil _ _ _ _ _ _ _ _ W) (fun W _ => checkRules_nil _ _ _ _ _ _ _ _ W)
  rw [show firstL [0, 0, 0, cErr s t, 0, 0, 0, defErr 2] = cErr s t from by
    by_cases h : cErr s t = 0
    · rw [h]; rfl
    · simp [firstL, h]] at this
  exact this
theorem one_ok : checkL (fun y : S32 => y.f0.toList) moreLimit [] [limOf ⟨#[111, 110, 101]⟩] = 0 := by
  have e1 : (limOf ⟨#[111, 110, 101]⟩).f0.toList = [111, 110, 101] := by rw [Lib.toList_data]; rfl
  simp only [checkL, more_limOf, e1]
  rfl
theorem checkD_calls (b c rb rc : Nat) (f : Int) (w : World) (hc : 1 ≤ c) (h0 : w.cell? ⟨b, 0, none⟩ = some (.string ⟨#[111, 110, 101]⟩)) (h1 : w.cell? ⟨b, 1, none⟩ = some (.int .i64 0)) (h2 : w.cell? ⟨b, 2, none⟩ = some (.int .i64 1)) (h3 : w.cell? ⟨b, 3, none⟩ = some (.bool false))
    (HR : Kd.C k32 w (some ⟨b, 0, none⟩) [limOf ⟨#[111, 110, 101]⟩].length [limOf ⟨#[111, 110, 101]⟩] → ∀ W, Below w.heap.size w W → Calls Tryd.prog 12 #[.agg #[.slice none 0 0, .slice none 0 0, .slice none 0 0, .slice (some ⟨b, 0, none⟩) 1 c, .slice none 0 0, .slice none 0 0, .slice (some ⟨rb, 0, none⟩) 1 rc, .int .i64 2]] W fun e w' => e = .returned (.int .i64 f) ∧ Below W.heap.size W w') :
    Calls Tryd.prog 4 #[.agg #[.slice none 0 0, .slice none 0 0, .slice none 0 0, .slice (some ⟨b, 0, none⟩) 1 c, .slice none 0 0, .slice none 0 0, .slice (some ⟨rb, 0, none⟩) 1 rc, .int .i64 2]] w fun e w' => e = .returned (.int .i64 f) ∧ Below w.heap.size w w' := by
  have HC := lim_C1 w b ⟨#[111, 110, 101]⟩ h0 h1 h2 h3
  have := check_calls none none none (some ⟨b, 0, none⟩) none none (some ⟨rb, 0, none⟩) 0 0 0 1 0 0 1 0 0 0 c 0 0 rc 2 0 0 0 0 0 0 f w (by omega) (by omega) (by omega) (by omega) (by omega) (by omega) (by omega)
    (fun W _ => checkZones_nil _ _ _ _ _ _ _ _ W) (fun W _ => checkObjects_nil _ _ _ _ _ _ _ _ W) (fun W _ => checkServices_nil _ _ _ _ _ _ _ _ W)
    (fun W hb => by
      have h := checkLimits_calls (.slice none 0 0) (.slice none 0 0) (.slice none 0 0) (.slice none 0 0) (.slice none 0 0) (.slice (some ⟨rb, 0, none⟩) 1 rc) (.int .i64 2) (some ⟨b, 0, none⟩) c [limOf ⟨#[111, 110, 101]⟩] W (Kd.C_below HC hb) (by simp) hc
      rw [one_ok] at h
      exact h)
    (fun W _ => checkRoutes_nil _ _ _ _ _ _ _ _ W) (fun W _ => checkNats_nil _ _ _ _ _ _ _ _ W) (fun W hb => HR HC W hb)
  rw [show firstL [0, 0, 0, 0, 0, 0, f, defErr 2] = f from by
    by_cases h : f = 0
    · rw [h]; rfl
    · simp [firstL, h]] at this
  exact this
end Go.Proofs.YteocdfahhndfoaaDoor.Print
