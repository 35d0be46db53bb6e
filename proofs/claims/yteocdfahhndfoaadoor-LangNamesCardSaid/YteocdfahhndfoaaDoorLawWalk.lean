/-
The law's walk, given what the two checks come to.
Conditions: which way the law goes (LawCases).
-/
import Derived.Test.YteocdfahhndfoaaDoorLawParts
namespace Go.Proofs.YteocdfahhndfoaaDoor.Print
open Go.RowKit Go.Proofs.YteocdfahhndfoaaDoorW.PrintWords Go.Proofs.YteocdfahhndfoaaDoor.Plain
set_option maxHeartbeats 1600000 in
theorem law_long1 (s t : ByteArray) (w : World) (hs : 4096 < s.size) : Calls Tryd.prog 3 #[.string s, .string t] w fun e w' => e = .returned (.bool true) ∧ Below w.heap.size w w' := by
  go_enter Tryd.func3, Tryd.ntmps3
  go_wp2_with fail
  go_ret
  exact ⟨rfl, Below.refl _ _⟩
set_option maxHeartbeats 1600000 in
theorem law_long2 (s t : ByteArray) (w : World) (hs : s.size ≤ 4096) (ht : 4096 < t.size) : Calls Tryd.prog 3 #[.string s, .string t] w fun e w' => e = .returned (.bool true) ∧ Below w.heap.size w w' := by
  go_enter Tryd.func3, Tryd.ntmps3
  go_wp2_with fail
  go_ret
  exact ⟨rfl, Below.refl _ _⟩

theorem arr_left {a b : Array Value} {j : Nat} {v : Value} (h : a[j]? = some v) : (a ++ b)[j]? = some v := by
  have hj : j < a.size := by
    rcases Nat.lt_or_ge j a.size with h' | h'
    · exact h'
    · rw [Array.getElem?_eq_none h'] at h; cases h
  rw [Array.getElem?_append_left hj]
  exact h
theorem cap_ge (n a T x : Nat) : n ≤ (Question.appendCap n a T).cut x := by
  show n ≤ n + _
  omega
/-- What the configuration with the rule gives. -/
def DPays (f : Int) (s : ByteArray) : Prop := ∀ (b c rb rc : Nat) (w : World), 1 ≤ c →
  w.cell? ⟨b, 0, none⟩ = some (.string ⟨#[111, 110, 101]⟩) → w.cell? ⟨b, 1, none⟩ = some (.int .i64 0) → w.cell? ⟨b, 2, none⟩ = some (.int .i64 1) → w.cell? ⟨b, 3, none⟩ = some (.bool false) →
  w.cell? ⟨rb, 0, none⟩ = some (.string ⟨#[97, 110, 121]⟩) → w.cell? ⟨rb, 1, none⟩ = some (.string ⟨#[97, 110, 121]⟩) → w.cell? ⟨rb, 2, none⟩ = some (.string ⟨#[97, 110, 121]⟩) → w.cell? ⟨rb, 3, none⟩ = some (.string ⟨#[97, 110, 121]⟩) → w.cell? ⟨rb, 4, none⟩ = some (.string ⟨#[97, 110, 121]⟩) →
  w.cell? ⟨rb, 5, none⟩ = some (.int .i64 1) → w.cell? ⟨rb, 6, none⟩ = some (.string s) → w.cell? ⟨rb, 7, none⟩ = some (.bool false) →
  Calls Tryd.prog 4 #[.agg #[.slice none 0 0, .slice none 0 0, .slice none 0 0, .slice (some ⟨b, 0, none⟩) 1 c, .slice none 0 0, .slice none 0 0, .slice (some ⟨rb, 0, none⟩) 1 rc, .int .i64 2]] w fun e w' => e = .returned (.int .i64 f) ∧ Below w.heap.size w w'

/-- Which way the law goes. -/
def LawCases (s t : ByteArray) (e0 f : Int) : Prop := (s.toList.isEmpty = true ∧ f = 0 ∧ nameB s.data.toList = false ∧ e0 = 62) ∨ (s.toList.isEmpty = false ∧ (s.toList == [111, 110, 101]) = true ∧ f = 0 ∧ nameB s.data.toList = true ∧ (s.toList == t.toList) = true ∧ (s.toList != t.toList) = false ∧ e0 = 63) ∨ (s.toList.isEmpty = false ∧ (s.toList == [111, 110, 101]) = true ∧ f = 0 ∧ nameB s.data.toList = true ∧ (s.toList == t.toList) = false ∧ (s.toList != t.toList) = true ∧ nameB t.data.toList = false ∧ e0 = 62) ∨ (s.toList.isEmpty = false ∧ (s.toList == [111, 110, 101]) = true ∧ f = 0 ∧ nameB s.data.toList = true ∧ (s.toList == t.toList) = false ∧ (s.toList != t.toList) = true ∧ nameB t.data.toList = true ∧ e0 = 0) ∨ (s.toList.isEmpty = false ∧ (s.toList == [111, 110, 101]) = false ∧ f = 62 ∧ nameB s.data.toList = true ∧ (s.toList == t.toList) = true ∧ (s.toList != t.toList) = false ∧ e0 = 63) ∨ (s.toList.isEmpty = false ∧ (s.toList == [111, 110, 101]) = false ∧ f = 62 ∧ nameB s.data.toList = true ∧ (s.toList == t.toList) = false ∧ (s.toList != t.toList) = true ∧ nameB t.data.toList = false ∧ e0 = 62) ∨ (s.toList.isEmpty = false ∧ (s.toList == [111, 110, 101]) = false ∧ f = 62 ∧ nameB s.data.toList = true ∧ (s.toList == t.toList) = false ∧ (s.toList != t.toList) = true ∧ nameB t.data.toList = true ∧ e0 = 0) ∨ (s.toList.isEmpty = false ∧ (s.toList == [111, 110, 101]) = false ∧ f = 62 ∧ nameB s.data.toList = false ∧ e0 = 62)
set_option maxRecDepth 8192 in
set_option maxHeartbeats 8000000 in
theorem law_walk (s t : ByteArray) (w : World) (e0 f : Int) (hs : s.size ≤ 4096) (ht : t.size ≤ 4096) (he : Aside0 (cErr s t = e0)) (hf : Aside0 (DPays f s)) (hcases : Aside0 (LawCases s t e0 f)) : Calls Tryd.prog 3 #[.string s, .string t] w fun e w' => e = .returned (.bool true) ∧ Below w.heap.size w w' := by
  have HN := Aside0.mk (fun (n : ByteArray) (hn : n.size ≤ 140737488351232) (W : World) => refName_calls n hn W)
  go_enter Tryd.func3, Tryd.ntmps3
  go_wp2_with fail
  refine (checkC_calls _ _ s t _ (cap_ge _ _ _ _) (by first | (go_simp; done) | (go_simp; exact arr_left rfl)) (by first | (go_simp; done) | (go_simp; exact arr_left rfl)) (by first | (go_simp; done) | (go_simp; exact arr_left rfl)) (by first | (go_simp; done) | (go_simp; exact arr_left rfl)) (by first | (go_simp; done) | (go_simp; exact arr_left rfl)) (by first | (go_simp; done) | (go_simp; exact arr_left rfl)) (by first | (go_simp; done) | (go_simp; exact arr_left rfl)) (by first | (go_simp; done) | (go_simp; exact arr_left rfl))).mono ?_
  rintro e w1 ⟨rfl, hb⟩
  rw [he.out]
  have HB1 : Below w.heap.size w w1 := by
    refine Below.trans ?_ (hb.mono ?_)
    · (repeat first | (refine Below.drew ?_) | (refine Below.alloc ?_ (by simp; try omega) _)); exact Below.refl _ _
    · simp
      try omega
  have d0 : w1.cell? ⟨w.heap.size + 1 + 1 + 1, 0, none⟩ = some (.slice none 0 0) := pw_cell_below hb (by first | (go_simp; done) | (go_simp; exact arr_left rfl))
  have d1 : w1.cell? ⟨w.heap.size + 1 + 1 + 1, 1, none⟩ = some (.slice none 0 0) := pw_cell_below hb (by first | (go_simp; done) | (go_simp; exact arr_left rfl))
  have d2 : w1.cell? ⟨w.heap.size + 1 + 1 + 1, 2, none⟩ = some (.slice none 0 0) := pw_cell_below hb (by first | (go_simp; done) | (go_simp; exact arr_left rfl))
  have d3 : w1.cell? ⟨w.heap.size + 1 + 1 + 1, 3, none⟩ = some (.slice (some ⟨w.heap.size + 1 + 1 + 1 + 1 + 1, 0, none⟩) 1 ((Question.appendCap 1 0 32).cut (w.tape (w.drawn + 1) (Question.appendCap 1 0 32)))) := pw_cell_below hb (by first | (go_simp; done) | (go_simp; exact arr_left rfl))
  have d4 : w1.cell? ⟨w.heap.size + 1 + 1 + 1, 4, none⟩ = some (.slice none 0 0) := pw_cell_below hb (by first | (go_simp; done) | (go_simp; exact arr_left rfl))
  have d5 : w1.cell? ⟨w.heap.size + 1 + 1 + 1, 5, none⟩ = some (.slice none 0 0) := pw_cell_below hb (by first | (go_simp; done) | (go_simp; exact arr_left rfl))
  have d6 : w1.cell? ⟨w.heap.size + 1 + 1 + 1, 6, none⟩ = some (.slice (some ⟨w.heap.size + 1 + 1 + 1 + 1 + 1 + 1 + 1, 0, none⟩) 1 ((Question.appendCap 1 0 34).cut (w.tape (w.drawn + 1 + 1) (Question.appendCap 1 0 34)))) := pw_cell_below hb (by first | (go_simp; done) | (go_simp; exact arr_left rfl))
  have d7 : w1.cell? ⟨w.heap.size + 1 + 1 + 1, 7, none⟩ = some (.int .i64 2) := pw_cell_below hb (by first | (go_simp; done) | (go_simp; exact arr_left rfl))
  have m0 : w1.cell? ⟨w.heap.size + 1 + 1 + 1 + 1 + 1, 0, none⟩ = some (.string ⟨#[111, 110, 101]⟩) := pw_cell_below hb (by first | (go_simp; done) | (go_simp; exact arr_left rfl))
  have m1 : w1.cell? ⟨w.heap.size + 1 + 1 + 1 + 1 + 1, 1, none⟩ = some (.int .i64 0) := pw_cell_below hb (by first | (go_simp; done) | (go_simp; exact arr_left rfl))
  have m2 : w1.cell? ⟨w.heap.size + 1 + 1 + 1 + 1 + 1, 2, none⟩ = some (.int .i64 1) := pw_cell_below hb (by first | (go_simp; done) | (go_simp; exact arr_left rfl))
  have m3 : w1.cell? ⟨w.heap.size + 1 + 1 + 1 + 1 + 1, 3, none⟩ = some (.bool false) := pw_cell_below hb (by first | (go_simp; done) | (go_simp; exact arr_left rfl))
  have r0 : w1.cell? ⟨w.heap.size + 1 + 1 + 1 + 1 + 1 + 1 + 1, 0, none⟩ = some (.string ⟨#[97, 110, 121]⟩) := pw_cell_below hb (by first | (go_simp; done) | (go_simp; exact arr_left rfl))
  have r1 : w1.cell? ⟨w.heap.size + 1 + 1 + 1 + 1 + 1 + 1 + 1, 1, none⟩ = some (.string ⟨#[97, 110, 121]⟩) := pw_cell_below hb (by first | (go_simp; done) | (go_simp; exact arr_left rfl))
  have r2 : w1.cell? ⟨w.heap.size + 1 + 1 + 1 + 1 + 1 + 1 + 1, 2, none⟩ = some (.string ⟨#[97, 110, 121]⟩) := pw_cell_below hb (by first | (go_simp; done) | (go_simp; exact arr_left rfl))
  have r3 : w1.cell? ⟨w.heap.size + 1 + 1 + 1 + 1 + 1 + 1 + 1, 3, none⟩ = some (.string ⟨#[97, 110, 121]⟩) := pw_cell_below hb (by first | (go_simp; done) | (go_simp; exact arr_left rfl))
  have r4 : w1.cell? ⟨w.heap.size + 1 + 1 + 1 + 1 + 1 + 1 + 1, 4, none⟩ = some (.string ⟨#[97, 110, 121]⟩) := pw_cell_below hb (by first | (go_simp; done) | (go_simp; exact arr_left rfl))
  have r5 : w1.cell? ⟨w.heap.size + 1 + 1 + 1 + 1 + 1 + 1 + 1, 5, none⟩ = some (.int .i64 1) := pw_cell_below hb (by first | (go_simp; done) | (go_simp; exact arr_left rfl))
  have r6 : w1.cell? ⟨w.heap.size + 1 + 1 + 1 + 1 + 1 + 1 + 1, 6, none⟩ = some (.string s) := pw_cell_below hb (by first | (go_simp; done) | (go_simp; exact arr_left rfl))
  have r7 : w1.cell? ⟨w.heap.size + 1 + 1 + 1 + 1 + 1 + 1 + 1, 7, none⟩ = some (.bool false) := pw_cell_below hb (by first | (go_simp; done) | (go_simp; exact arr_left rfl))
  clear hb
  have HD := Aside0.mk (hf.out _ _ _ ((Question.appendCap 1 0 34).cut (w.tape (w.drawn + 1 + 1) (Question.appendCap 1 0 34))) w1 (cap_ge 1 0 32 (w.tape (w.drawn + 1) (Question.appendCap 1 0 32))) m0 m1 m2 m3 r0 r1 r2 r3 r4 r5 r6 r7)
  clear m0 m1 m2 m3 r0 r1 r2 r3 r4 r5 r6 r7 hf he
  go_wp2_with fail
  refine HD.out.mono ?_
  rintro e w2 ⟨rfl, hb⟩
  have HB2 : Below w.heap.size w w2 := bthen HB1 hb
  clear hb HB1 HD d0 d1 d2 d3 d4 d5 d6 d7
  rcases hcases.out with hk | hk | hk | hk | hk | hk | hk | hk
  · obtain ⟨k1, rfl, k3, rfl⟩ := hk
    have K3 := Aside0.mk k3
    clear k3
    clear hcases
    go_wp2_with fail
    refine (HN.out s (by omega) _).mono ?_
    rintro e w3 ⟨rfl, hd⟩
    have HB3 := HB2.trans (hd.below.mono HB2.size)
    rw [K3.out]
    clear hd HB2 K3
    go_wp2_with fail
    go_ret
    exact ⟨rfl, HB3⟩
  · obtain ⟨k1, k2, rfl, k3, k4, k5, rfl⟩ := hk
    have K3 := Aside0.mk k3
    clear k3
    clear hcases
    go_wp2_with fail
    refine (HN.out s (by omega) _).mono ?_
    rintro e w3 ⟨rfl, hd⟩
    have HB3 := HB2.trans (hd.below.mono HB2.size)
    rw [K3.out]
    clear hd HB2 K3
    go_wp2_with fail
    go_ret
    exact ⟨rfl, HB3⟩
  · obtain ⟨k1, k2, rfl, k3, k4, k5, k6, rfl⟩ := hk
    have K3 := Aside0.mk k3
    clear k3
    have K6 := Aside0.mk k6
    clear k6
    clear hcases
    go_wp2_with fail
    refine (HN.out s (by omega) _).mono ?_
    rintro e w3 ⟨rfl, hd⟩
    have HB3 := HB2.trans (hd.below.mono HB2.size)
    rw [K3.out]
    clear hd HB2 K3
    go_wp2_with fail
    refine (HN.out t (by omega) _).mono ?_
    rintro e w4 ⟨rfl, hd⟩
    have HB4 := HB3.trans (hd.below.mono HB3.size)
    rw [K6.out]
    clear hd HB3 K6
    go_wp2_with fail
    go_ret
    exact ⟨rfl, HB4⟩
  · obtain ⟨k1, k2, rfl, k3, k4, k5, k6, rfl⟩ := hk
    have K3 := Aside0.mk k3
    clear k3
    have K6 := Aside0.mk k6
    clear k6
    clear hcases
    go_wp2_with fail
    refine (HN.out s (by omega) _).mono ?_
    rintro e w3 ⟨rfl, hd⟩
    have HB3 := HB2.trans (hd.below.mono HB2.size)
    rw [K3.out]
    clear hd HB2 K3
    go_wp2_with fail
    refine (HN.out t (by omega) _).mono ?_
    rintro e w4 ⟨rfl, hd⟩
    have HB4 := HB3.trans (hd.below.mono HB3.size)
    rw [K6.out]
    clear hd HB3 K6
    go_wp2_with fail
    go_ret
    exact ⟨rfl, HB4⟩
  · obtain ⟨k1, k2, rfl, k3, k4, k5, rfl⟩ := hk
    have K3 := Aside0.mk k3
    clear k3
    clear hcases
    go_wp2_with fail
    refine (HN.out s (by omega) _).mono ?_
    rintro e w3 ⟨rfl, hd⟩
    have HB3 := HB2.trans (hd.below.mono HB2.size)
    rw [K3.out]
    clear hd HB2 K3
    go_wp2_with fail
    go_ret
    exact ⟨rfl, HB3⟩
  · obtain ⟨k1, k2, rfl, k3, k4, k5, k6, rfl⟩ := hk
    have K3 := Aside0.mk k3
    clear k3
    have K6 := Aside0.mk k6
    clear k6
    clear hcases
    go_wp2_with fail
    refine (HN.out s (by omega) _).mono ?_
    rintro e w3 ⟨rfl, hd⟩
    have HB3 := HB2.trans (hd.below.mono HB2.size)
    rw [K3.out]
    clear hd HB2 K3
    go_wp2_with fail
    refine (HN.out t (by omega) _).mono ?_
    rintro e w4 ⟨rfl, hd⟩
    have HB4 := HB3.trans (hd.below.mono HB3.size)
    rw [K6.out]
    clear hd HB3 K6
    go_wp2_with fail
    go_ret
    exact ⟨rfl, HB4⟩
  · obtain ⟨k1, k2, rfl, k3, k4, k5, k6, rfl⟩ := hk
    have K3 := Aside0.mk k3
    clear k3
    have K6 := Aside0.mk k6
    clear k6
    clear hcases
    go_wp2_with fail
    refine (HN.out s (by omega) _).mono ?_
    rintro e w3 ⟨rfl, hd⟩
    have HB3 := HB2.trans (hd.below.mono HB2.size)
    rw [K3.out]
    clear hd HB2 K3
    go_wp2_with fail
    refine (HN.out t (by omega) _).mono ?_
    rintro e w4 ⟨rfl, hd⟩
    have HB4 := HB3.trans (hd.below.mono HB3.size)
    rw [K6.out]
    clear hd HB3 K6
    go_wp2_with fail
    go_ret
    exact ⟨rfl, HB4⟩
  · obtain ⟨k1, k2, rfl, k3, rfl⟩ := hk
    have K3 := Aside0.mk k3
    clear k3
    clear hcases
    go_wp2_with fail
    refine (HN.out s (by omega) _).mono ?_
    rintro e w3 ⟨rfl, hd⟩
    have HB3 := HB2.trans (hd.below.mono HB2.size)
    rw [K3.out]
    clear hd HB2 K3
    go_wp2_with fail
    go_ret
    exact ⟨rfl, HB3⟩
end Go.Proofs.YteocdfahhndfoaaDoor.Print
