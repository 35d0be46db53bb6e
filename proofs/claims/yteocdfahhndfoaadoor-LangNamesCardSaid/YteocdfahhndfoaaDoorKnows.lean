/-
The walks of lang.first, lang.knowsZone, knowsObject, knowsService, and of the checks at lists that are empty.
Conditions: the slices are no longer than the reach.
-/
import Derived.Test.YteocdfahhndfoaaDoorCheckLimits
namespace Go.Proofs.YteocdfahhndfoaaDoor.Print
open Go.RowKit Go.Proofs.YteocdfahhndfoaaDoorW.PrintWords Go.Proofs.YteocdfahhndfoaaDoor.Plain

/-- The first that is not 0; 0: none. -/
def firstL : List Int → Int
  | [] => 0
  | x :: l => if x ≠ 0 then x else firstL l
set_option maxHeartbeats 1600000 in
theorem first_calls (b c : Nat) (xs : List Int) (w : World) (hl : xs.length ≤ 140737488351232) (hcell : ∀ j, j < xs.length → w.cell? ⟨b, j, none⟩ = some (.int .i64 (xs.getD j 0))) :
    Calls Tryd.prog 32 #[.slice (some ⟨b, 0, none⟩) xs.length c] w fun e w' => e = .returned (.int .i64 (firstL xs)) ∧ Below w.heap.size w w' := by
  have HC := Aside0.mk hcell
  clear hcell
  go_enter Tryd.func32, Tryd.ntmps32
  go_wp2_with fail
  go_loopg [4, 7] xs.length (fun gg _ s7 wr => ∃ k : Nat, k ≤ xs.length ∧ xs.length - k ≤ gg ∧ s7 = .int .i64 k ∧ Aside0 (Below w.heap.size w wr) ∧ Aside0 (firstL xs = firstL (xs.drop k)))
  case atStart => exact ⟨0, by omega, by omega, rfl, ⟨Below.refl _ _⟩, ⟨by simp⟩⟩
  case round =>
    obtain ⟨k, h1, hg, rfl, BW, HX⟩ := hrel
    by_cases hlt : k < xs.length
    · have hc : wr.cell? ⟨b, k, none⟩ = some (.int .i64 (xs.getD k 0)) := pw_cell_below BW.out (HC.out k hlt)
      have hd : xs.drop k = xs.getD k 0 :: xs.drop (k + 1) := by
        rw [List.drop_eq_getElem_cons hlt, List.getD_eq_getElem?_getD, List.getElem?_eq_getElem hlt]
        rfl
      have HX2 := HX.out
      rw [hd, firstL] at HX2
      have HX3 := Aside0.mk HX2
      clear HX HX2 hd HC
      generalize xs.getD k 0 = y at hc HX3
      by_cases hy : y = 0
      · subst hy
        have Hn : Aside0 (firstL xs = firstL (xs.drop (k + 1))) := ⟨by rw [HX3.out]; rfl⟩
        clear HX3
        go_wp2_with fail
        go_roundg (xs.length - (k + 1))
        case measure => omega
        case rel => exact ⟨k + 1, by omega, by omega, by go_num, BW, Hn⟩
      · have Hn : Aside0 (firstL xs = y) := ⟨by rw [HX3.out, if_pos hy]⟩
        have hy' : (y != 0) = true := bne_iff_ne.mpr hy
        clear HX3
        go_wp2_with fail
        go_ret
        exact ⟨by rw [Hn.out]; rfl, BW.out⟩
    · have Hfin : Aside0 (firstL xs = 0) := ⟨by rw [HX.out, List.drop_eq_nil_of_le (by omega)]; rfl⟩
      clear HX
      go_wp2_with fail
      go_ret
      exact ⟨by rw [Hfin.out]; rfl, BW.out⟩
theorem ret_bool2 {a b : Bool} {w w' : World} {B : Nat} (h : a = b) (hb : Below B w w') : Ending.returned (.bool a) = Ending.returned (.bool b) ∧ Below B w w' := ⟨by rw [h], hb⟩
set_option maxHeartbeats 1600000 in
theorem knowsZone_calls (v1 v2 v3 v4 v5 v6 v7 : Value) (A : Option Addr) (c : Nat) (xs : List S47) (s : ByteArray) (w : World) (hr : Kd.C k47 w A xs.length xs) (hl : xs.length ≤ 140737488351232) :
    Calls Tryd.prog 33 #[.agg #[.slice A xs.length c, v1, v2, v3, v4, v5, v6, v7], .string s] w fun e w' => e = .returned (.bool (xs.any (fun x : S47 => x.f0.toList == s.toList))) ∧ Below w.heap.size w w' := by
  have HX := Aside0.mk (idxP_neg (fun x : S47 => x.f0.toList == s.toList) xs 0 (Int.le_refl _))
  have HN := Aside0.mk (fun W (hb : Below w.heap.size w W) => named_Zone s A c xs W (Kd.C_below hr hb) hl)
  clear hr
  generalize idxP (fun x : S47 => x.f0.toList == s.toList) xs 0 = r at HX HN
  generalize xs.any (fun x : S47 => x.f0.toList == s.toList) = q at HX
  go_enter Tryd.func33, Tryd.ntmps33
  go_wp2_with fail
  refine (HN.out _ ((Below.refl _ _).alloc (Nat.le_refl _) _)).mono ?_
  rintro e w1 ⟨rfl, hb⟩
  have HB := Below.trans ((Below.refl w.heap.size w).alloc (Nat.le_refl _) _) (hb.mono (by simp))
  clear hb HN
  rcases HX.out with ⟨a, b⟩ | ⟨a, b⟩
  · subst a
    subst b
    clear HX
    go_wp2_with fail
    go_ret
    exact ⟨rfl, HB⟩
  · subst b
    have hd : decide (r ≥ 0) = true := decide_eq_true (by omega)
    clear HX
    go_wp2_with fail
    go_ret
    exact ⟨by rw [← hd]; rfl, HB⟩

set_option maxHeartbeats 1600000 in
theorem knowsObject_calls (v0 v2 v3 v4 v5 v6 v7 : Value) (A : Option Addr) (c : Nat) (xs : List S53) (s : ByteArray) (w : World) (hr : Kd.C k53 w A xs.length xs) (hl : xs.length ≤ 140737488351232) :
    Calls Tryd.prog 34 #[.agg #[v0, .slice A xs.length c, v2, v3, v4, v5, v6, v7], .string s] w fun e w' => e = .returned (.bool ((s.toList == [97, 110, 121]) || xs.any (fun x : S53 => x.f0.toList == s.toList))) ∧ Below w.heap.size w w' := by
  have HX := Aside0.mk (idxP_neg (fun x : S53 => x.f0.toList == s.toList) xs 0 (Int.le_refl _))
  have HN := Aside0.mk (fun W (hb : Below w.heap.size w W) => named_Object s A c xs W (Kd.C_below hr hb) hl)
  clear hr
  generalize idxP (fun x : S53 => x.f0.toList == s.toList) xs 0 = r at HX HN
  generalize xs.any (fun x : S53 => x.f0.toList == s.toList) = q at HX
  by_cases h : s.toList = [97, 110, 121]
  · have hq : ((s.toList == [97, 110, 121]) || q) = true := by rw [beq_iff_eq.mpr h]; rfl
    have HQ := Aside0.mk hq
    clear hq HX HN
    go_enter Tryd.func34, Tryd.ntmps34
    go_wp2_with fail
    go_ret
    exact ⟨by rw [HQ.out]; rfl, (Below.refl _ _).alloc (Nat.le_refl _) _⟩
  · have hq : ((s.toList == [97, 110, 121]) || q) = q := by rw [beq_eq_false_iff_ne.mpr h]; rfl
    have HQ := Aside0.mk hq
    clear hq
    go_enter Tryd.func34, Tryd.ntmps34
    go_wp2_with fail
    refine (HN.out _ ((Below.refl _ _).alloc (Nat.le_refl _) _)).mono ?_
    rintro e w1 ⟨rfl, hb⟩
    have HB := Below.trans ((Below.refl w.heap.size w).alloc (Nat.le_refl _) _) (hb.mono (by simp))
    clear hb HN
    rcases HX.out with ⟨a, b⟩ | ⟨a, b⟩
    · subst a
      subst b
      clear HX
      go_wp2_with fail
      go_ret
      exact ⟨by rw [Bool.or_false]; rfl, HB⟩
    · subst b
      have hd : decide (r ≥ 0) = true := decide_eq_true (by omega)
      clear HX
      go_wp2_with fail
      go_ret
      exact ⟨by rw [HQ.out, ← hd]; rfl, HB⟩

set_option maxHeartbeats 1600000 in
theorem knowsService_calls (v0 v1 v3 v4 v5 v6 v7 : Value) (A : Option Addr) (c : Nat) (xs : List S61) (s : ByteArray) (w : World) (hr : Kd.C k61 w A xs.length xs) (hl : xs.length ≤ 140737488351232) :
    Calls Tryd.prog 35 #[.agg #[v0, v1, .slice A xs.length c, v3, v4, v5, v6, v7], .string s] w fun e w' => e = .returned (.bool ((s.toList == [97, 110, 121]) || xs.any (fun x : S61 => x.f0.toList == s.toList))) ∧ Below w.heap.size w w' := by
  have HX := Aside0.mk (idxP_neg (fun x : S61 => x.f0.toList == s.toList) xs 0 (Int.le_refl _))
  have HN := Aside0.mk (fun W (hb : Below w.heap.size w W) => named_Service s A c xs W (Kd.C_below hr hb) hl)
  clear hr
  generalize idxP (fun x : S61 => x.f0.toList == s.toList) xs 0 = r at HX HN
  generalize xs.any (fun x : S61 => x.f0.toList == s.toList) = q at HX
  by_cases h : s.toList = [97, 110, 121]
  · have hq : ((s.toList == [97, 110, 121]) || q) = true := by rw [beq_iff_eq.mpr h]; rfl
    have HQ := Aside0.mk hq
    clear hq HX HN
    go_enter Tryd.func35, Tryd.ntmps35
    go_wp2_with fail
    go_ret
    exact ⟨by rw [HQ.out]; rfl, (Below.refl _ _).alloc (Nat.le_refl _) _⟩
  · have hq : ((s.toList == [97, 110, 121]) || q) = q := by rw [beq_eq_false_iff_ne.mpr h]; rfl
    have HQ := Aside0.mk hq
    clear hq
    go_enter Tryd.func35, Tryd.ntmps35
    go_wp2_with fail
    refine (HN.out _ ((Below.refl _ _).alloc (Nat.le_refl _) _)).mono ?_
    rintro e w1 ⟨rfl, hb⟩
    have HB := Below.trans ((Below.refl w.heap.size w).alloc (Nat.le_refl _) _) (hb.mono (by simp))
    clear hb HN
    rcases HX.out with ⟨a, b⟩ | ⟨a, b⟩
    · subst a
      subst b
      clear HX
      go_wp2_with fail
      go_ret
      exact ⟨by rw [Bool.or_false]; rfl, HB⟩
    · subst b
      have hd : decide (r ≥ 0) = true := decide_eq_true (by omega)
      clear HX
      go_wp2_with fail
      go_ret
      exact ⟨by rw [HQ.out, ← hd]; rfl, HB⟩

set_option maxRecDepth 8192 in
theorem checkZones_nil (v1 v2 v3 v4 v5 v6 v7 : Value) (c : Nat) (w : World) :
    Calls Tryd.prog 6 #[.agg #[.slice none 0 c, v1, v2, v3, v4, v5, v6, v7]] w fun e w' => e = .returned (.int .i64 0) ∧ Below w.heap.size w w' := by
  go_enter Tryd.func6, Tryd.ntmps6
  go_wp2_with fail
  have HB0 : Below w.heap.size w ((w.alloc (Obj.cells #[.slice none 0 c, v1, v2, v3, v4, v5, v6, v7] 30)).alloc (Obj.cells #[.bool false, .bool false, .bool false, .bool false, .bool false, .bool false, .bool false, .bool false, .bool false, .bool false, .bool false, .bool false, .bool false, .bool false, .bool false, .bool false] 41)) := ((Below.refl _ _).alloc (Nat.le_refl _) _).alloc (by simp) _
  generalize ((w.alloc (Obj.cells #[.slice none 0 c, v1, v2, v3, v4, v5, v6, v7] 30)).alloc (Obj.cells #[.bool false, .bool false, .bool false, .bool false, .bool false, .bool false, .bool false, .bool false, .bool false, .bool false, .bool false, .bool false, .bool false, .bool false, .bool false, .bool false] 41)) = wa at *
  go_loopg [12] 0 (fun gg s wr => s = .int .i64 0 ∧ Below w.heap.size w wr)
  case atStart => exact ⟨rfl, HB0⟩
  case round =>
    obtain ⟨rfl, HB⟩ := hrel
    go_wp2_with fail
    go_ret
    exact ⟨rfl, HB⟩

set_option maxRecDepth 8192 in
theorem checkObjects_nil (v0 v2 v3 v4 v5 v6 v7 : Value) (c : Nat) (w : World) :
    Calls Tryd.prog 7 #[.agg #[v0, .slice none 0 c, v2, v3, v4, v5, v6, v7]] w fun e w' => e = .returned (.int .i64 0) ∧ Below w.heap.size w w' := by
  go_enter Tryd.func7, Tryd.ntmps7
  go_wp2_with fail
  have HB0 : Below w.heap.size w (w.alloc (Obj.cells #[v0, .slice none 0 c, v2, v3, v4, v5, v6, v7] 30)) := (Below.refl _ _).alloc (Nat.le_refl _) _
  generalize (w.alloc (Obj.cells #[v0, .slice none 0 c, v2, v3, v4, v5, v6, v7] 30)) = wa at *
  go_loopg [13] 0 (fun gg s wr => s = .int .i64 0 ∧ Below w.heap.size w wr)
  case atStart => exact ⟨rfl, HB0⟩
  case round =>
    obtain ⟨rfl, HB⟩ := hrel
    go_wp2_with fail
    go_ret
    exact ⟨rfl, HB⟩

set_option maxRecDepth 8192 in
theorem checkServices_nil (v0 v1 v3 v4 v5 v6 v7 : Value) (c : Nat) (w : World) :
    Calls Tryd.prog 8 #[.agg #[v0, v1, .slice none 0 c, v3, v4, v5, v6, v7]] w fun e w' => e = .returned (.int .i64 0) ∧ Below w.heap.size w w' := by
  go_enter Tryd.func8, Tryd.ntmps8
  go_wp2_with fail
  have HB0 : Below w.heap.size w (w.alloc (Obj.cells #[v0, v1, .slice none 0 c, v3, v4, v5, v6, v7] 30)) := (Below.refl _ _).alloc (Nat.le_refl _) _
  generalize (w.alloc (Obj.cells #[v0, v1, .slice none 0 c, v3, v4, v5, v6, v7] 30)) = wa at *
  go_loopg [10] 0 (fun gg s wr => s = .int .i64 0 ∧ Below w.heap.size w wr)
  case atStart => exact ⟨rfl, HB0⟩
  case round =>
    obtain ⟨rfl, HB⟩ := hrel
    go_wp2_with fail
    go_ret
    exact ⟨rfl, HB⟩

set_option maxRecDepth 8192 in
theorem checkLimits_nil (v0 v1 v2 v4 v5 v6 v7 : Value) (c : Nat) (w : World) :
    Calls Tryd.prog 9 #[.agg #[v0, v1, v2, .slice none 0 c, v4, v5, v6, v7]] w fun e w' => e = .returned (.int .i64 0) ∧ Below w.heap.size w w' := by
  go_enter Tryd.func9, Tryd.ntmps9
  go_wp2_with fail
  have HB0 : Below w.heap.size w (w.alloc (Obj.cells #[v0, v1, v2, .slice none 0 c, v4, v5, v6, v7] 30)) := (Below.refl _ _).alloc (Nat.le_refl _) _
  generalize (w.alloc (Obj.cells #[v0, v1, v2, .slice none 0 c, v4, v5, v6, v7] 30)) = wa at *
  go_loopg [9] 0 (fun gg s wr => s = .int .i64 0 ∧ Below w.heap.size w wr)
  case atStart => exact ⟨rfl, HB0⟩
  case round =>
    obtain ⟨rfl, HB⟩ := hrel
    go_wp2_with fail
    go_ret
    exact ⟨rfl, HB⟩

set_option maxRecDepth 8192 in
theorem checkRoutes_nil (v0 v1 v2 v3 v5 v6 v7 : Value) (c : Nat) (w : World) :
    Calls Tryd.prog 10 #[.agg #[v0, v1, v2, v3, .slice none 0 c, v5, v6, v7]] w fun e w' => e = .returned (.int .i64 0) ∧ Below w.heap.size w w' := by
  go_enter Tryd.func10, Tryd.ntmps10
  go_wp2_with fail
  have HB0 : Below w.heap.size w (w.alloc (Obj.cells #[v0, v1, v2, v3, .slice none 0 c, v5, v6, v7] 30)) := (Below.refl _ _).alloc (Nat.le_refl _) _
  generalize (w.alloc (Obj.cells #[v0, v1, v2, v3, .slice none 0 c, v5, v6, v7] 30)) = wa at *
  go_loopg [10] 0 (fun gg s wr => s = .int .i64 0 ∧ Below w.heap.size w wr)
  case atStart => exact ⟨rfl, HB0⟩
  case round =>
    obtain ⟨rfl, HB⟩ := hrel
    go_wp2_with fail
    go_ret
    exact ⟨rfl, HB⟩

set_option maxRecDepth 8192 in
theorem checkNats_nil (v0 v1 v2 v3 v4 v6 v7 : Value) (c : Nat) (w : World) :
    Calls Tryd.prog 11 #[.agg #[v0, v1, v2, v3, v4, .slice none 0 c, v6, v7]] w fun e w' => e = .returned (.int .i64 0) ∧ Below w.heap.size w w' := by
  go_enter Tryd.func11, Tryd.ntmps11
  go_wp2_with fail
  have HB0 : Below w.heap.size w (w.alloc (Obj.cells #[v0, v1, v2, v3, v4, .slice none 0 c, v6, v7] 30)) := (Below.refl _ _).alloc (Nat.le_refl _) _
  generalize (w.alloc (Obj.cells #[v0, v1, v2, v3, v4, .slice none 0 c, v6, v7] 30)) = wa at *
  go_loopg [11] 0 (fun gg s wr => s = .int .i64 0 ∧ Below w.heap.size w wr)
  case atStart => exact ⟨rfl, HB0⟩
  case round =>
    obtain ⟨rfl, HB⟩ := hrel
    go_wp2_with fail
    go_ret
    exact ⟨rfl, HB⟩

end Go.Proofs.YteocdfahhndfoaaDoor.Print
