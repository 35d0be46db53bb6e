/-
What the rule's walks share: the region's condition, the calls' contracts at the law's rule.
Conditions: as stated.
-/
import Derived.Test.YteocdfahhndfoaaDoorLawParts
import Derived.Deep.RegionHeld3
import Derived.Shelf.RegionOpenPlain
namespace Go.Proofs.YteocdfahhndfoaaDoor.Print
open Go.RowKit Go.Proofs.YteocdfahhndfoaaDoorW.PrintWords Go.Proofs.YteocdfahhndfoaaDoor.Plain
theorem kd_nil {α : Type} (d : Kd α) (w : World) : d.C w none ([] : List α).length [] := Kd.C_nil d w
theorem any_toList : (⟨#[97, 110, 121]⟩ : ByteArray).toList = [97, 110, 121] := by rw [Lib.toList_data]
theorem knowsObject_any (v0 v2 v3 v4 v5 v6 v7 : Value) (c : Nat) (w : World) : Calls Tryd.prog 34 #[.agg #[v0, .slice none 0 c, v2, v3, v4, v5, v6, v7], .string ⟨#[97, 110, 121]⟩] w fun e w' => e = .returned (.bool true) ∧ Below w.heap.size w w' := by
  have := knowsObject_calls v0 v2 v3 v4 v5 v6 v7 none c [] ⟨#[97, 110, 121]⟩ w (kd_nil _ _) (by simp)
  rw [any_toList] at this
  exact this
theorem knowsService_any (v0 v1 v3 v4 v5 v6 v7 : Value) (c : Nat) (w : World) : Calls Tryd.prog 35 #[.agg #[v0, v1, .slice none 0 c, v3, v4, v5, v6, v7], .string ⟨#[97, 110, 121]⟩] w fun e w' => e = .returned (.bool true) ∧ Below w.heap.size w w' := by
  have := knowsService_calls v0 v1 v3 v4 v5 v6 v7 none c [] ⟨#[97, 110, 121]⟩ w (kd_nil _ _) (by simp)
  rw [any_toList] at this
  exact this
theorem namedService_nil (c : Nat) (s : ByteArray) (w : World) : Calls Tryd.prog 39 #[.slice none 0 c, .func (.func 21) #[] #[], .string s] w fun e w' => e = .returned (.int .i64 (-1)) ∧ Below w.heap.size w w' :=
  named_Service s none c [] w (kd_nil _ _) (by simp)
set_option maxRecDepth 8192 in
theorem side_any (b : Nat) (w : World) :
    Calls Tryd.prog 38 #[.string ⟨#[97, 110, 121]⟩, .pointer (some ⟨b, 0, none⟩)] w fun e w' => e = .returned (.bool true) ∧ Below w.heap.size w w' := by
  have h := any_toList
  go_enter Tryd.func38, Tryd.ntmps38
  go_wp2_with fail
  go_ret
  exact ⟨rfl, Below.refl _ _⟩
theorem when_is (v : Int) (b : Bool) (e0 : Int) (h : (if b then e0 else 0) = v) (w : World) : Calls Tryd.prog 13 #[.bool b, .int .i64 e0] w fun e w' => e = .returned (.int .i64 v) ∧ Below w.heap.size w w' := by
  subst h
  exact when_calls b e0 w
theorem first5 (b c : Nat) (x0 x1 x2 x3 x4 : Int) (w : World) (h0 : w.cell? ⟨b, 0, none⟩ = some (.int .i64 x0)) (h1 : w.cell? ⟨b, 1, none⟩ = some (.int .i64 x1)) (h2 : w.cell? ⟨b, 2, none⟩ = some (.int .i64 x2)) (h3 : w.cell? ⟨b, 3, none⟩ = some (.int .i64 x3)) (h4 : w.cell? ⟨b, 4, none⟩ = some (.int .i64 x4)) :
    Calls Tryd.prog 32 #[.slice (some ⟨b, 0, none⟩) 5 c] w fun e w' => e = .returned (.int .i64 (firstL [x0, x1, x2, x3, x4])) ∧ Below w.heap.size w w' :=
  first_calls b c [x0, x1, x2, x3, x4] w (by simp) (fun j hj => by
    have hj' : j < 5 := by simpa using hj
    obtain rfl | rfl | rfl | rfl | rfl : j = 0 ∨ j = 1 ∨ j = 2 ∨ j = 3 ∨ j = 4 := by omega
    · exact h0
    · exact h1
    · exact h2
    · exact h3
    · exact h4)
/-- A text that is not empty. -/
@[irreducible] def neS (c : UInt8) (l : List UInt8) : ByteArray := ⟨⟨c :: l⟩⟩
theorem neS_bne (c : UInt8) (l : List UInt8) : ((neS c l).toList != []) = true := by
  rw [Lib.toList_data]
  unfold neS
  rfl
theorem neS_beq (c : UInt8) (l : List UInt8) : ((neS c l).toList == []) = false := by
  rw [Lib.toList_data]
  unfold neS
  rfl
theorem neS_isEmpty (c : UInt8) (l : List UInt8) : (neS c l).toList.isEmpty = false := by
  rw [Lib.toList_data]
  unfold neS
  rfl
theorem em_isEmpty : (ByteArray.mk #[]).toList.isEmpty = true := by
  rw [Lib.toList_data]
  rfl
/-- What the region's world holds. -/
def RS (w : World) (g : Nat) (A : Option Addr) (n c c0 c1 c2 c6 rb : Nat) (v4 v5 v7 : Value) (s : ByteArray) (w' : World) : Prop := Below w.heap.size w w' ∧ w'.cell? ⟨w.heap.size, 0, none⟩ = some (.slice none 0 c0) ∧ w'.cell? ⟨w.heap.size, 1, none⟩ = some (.slice none 0 c1) ∧ w'.cell? ⟨w.heap.size, 2, none⟩ = some (.slice none 0 c2) ∧ w'.cell? ⟨w.heap.size, 3, none⟩ = some (.slice A n c) ∧ w'.cell? ⟨w.heap.size, 4, none⟩ = some (v4) ∧ w'.cell? ⟨w.heap.size, 5, none⟩ = some (v5) ∧ w'.cell? ⟨w.heap.size, 6, none⟩ = some (.slice (some ⟨rb, 0, none⟩) 1 c6) ∧ w'.cell? ⟨w.heap.size, 7, none⟩ = some (v7) ∧ w'.cell? ⟨g, 0, none⟩ = some (.string ⟨#[97, 110, 121]⟩) ∧ w'.cell? ⟨g, 1, none⟩ = some (.string ⟨#[97, 110, 121]⟩) ∧ w'.cell? ⟨g, 2, none⟩ = some (.string ⟨#[97, 110, 121]⟩) ∧ w'.cell? ⟨g, 3, none⟩ = some (.string ⟨#[97, 110, 121]⟩) ∧ w'.cell? ⟨g, 4, none⟩ = some (.string ⟨#[97, 110, 121]⟩) ∧ w'.cell? ⟨g, 5, none⟩ = some (.int .i64 1) ∧ w'.cell? ⟨g, 6, none⟩ = some (.string s) ∧ w'.cell? ⟨g, 7, none⟩ = some (.bool false)
theorem RS_below {w w1 w2 : World} {g : Nat} {A : Option Addr} {n c c0 c1 c2 c6 rb : Nat} {v4 v5 v7 : Value} {s : ByteArray} (h : RS w g A n c c0 c1 c2 c6 rb v4 v5 v7 s w1) (hb : Below w1.heap.size w1 w2) : RS w g A n c c0 c1 c2 c6 rb v4 v5 v7 s w2 := by
  obtain ⟨z0, y0, y1, y2, y3, y4, y5, y6, y7, y8, y9, y10, y11, y12, y13, y14, y15⟩ := h
  exact ⟨bthen z0 hb, pw_cell_below hb y0, pw_cell_below hb y1, pw_cell_below hb y2, pw_cell_below hb y3, pw_cell_below hb y4, pw_cell_below hb y5, pw_cell_below hb y6, pw_cell_below hb y7, pw_cell_below hb y8, pw_cell_below hb y9, pw_cell_below hb y10, pw_cell_below hb y11, pw_cell_below hb y12, pw_cell_below hb y13, pw_cell_below hb y14, pw_cell_below hb y15⟩
end Go.Proofs.YteocdfahhndfoaaDoor.Print
