/-
The walk of lang.Name: whether a text is a name is what the plain function on its bytes says.
Conditions: none.
-/
import Derived.Test.YteocdfahhndfoaaLangWords
namespace Go.Proofs.Yteocdfahhndfoaa.Print
open Go.RowKit Go.Proofs.YteocdfahhndfoaaW.PrintWords Go.Proofs.Yteocdfahhndfoaa.Plain

theorem odd_pays (w : World) : PredAt Try.prog 12 #[] encR oddR w := fun W r _ => by
  unfold FnGives
  have z1 : (97 : Int) ≤ (r : Int) ↔ 97 ≤ r := by omega
  have z2 : (r : Int) ≤ 122 ↔ r ≤ 122 := by omega
  have z3 : (48 : Int) ≤ (r : Int) ↔ 48 ≤ r := by omega
  have z4 : (r : Int) ≤ 57 ↔ r ≤ 57 := by omega
  have z5 : ((r : Int) == 95) = decide (r = 95) := by rw [Bool.eq_iff_iff]; simp; omega
  by_cases h1 : 97 ≤ r <;> by_cases h2 : r ≤ 122 <;> by_cases h3 : 48 ≤ r <;> by_cases h4 : r ≤ 57 <;> by_cases h5 : r = 95
  all_goals first
    | (exfalso; omega)
    | (go_enter Try.func12, Try.ntmps12
       go_wp2
       all_goals first | (exfalso; omega) | (go_ret; exact ⟨by simp [oddR, h1, h2, h3, h4, h5], 0, rfl⟩))

theorem ret_bool_ {a b : Bool} (h : a = b) : Ending.returned (.bool a) = Ending.returned (.bool b) := by rw [h]

set_option maxHeartbeats 1600000 in
theorem name_calls (s : ByteArray) (w : World) : Calls Try.prog 7 #[.string s] w fun e w' => e = .returned (.bool (nameB s.data.toList)) ∧ Below w.heap.size w w' := by
  have hz : s.data.toList.length = s.size := (Lib.size_eq s).symm
  have ix := idx_name s
  have Ix : Hid (decide (Lib.idxFunc oddR true s < 0) = s.data.toList.all nameC) := ix
  clear ix
  by_cases h1 : 1 ≤ s.size
  · by_cases h2 : s.size ≤ 12
    · by_cases h3 : s.data.toList = [97, 110, 121]
      · have h3' : s.toList = [97, 110, 121] := by rw [Lib.toList_data]; exact h3
        have hn : Hid (nameB s.data.toList = false) := by show _ = _; rw [h3]; rfl
        clear h3 hz
        go_enter Try.func7, Try.ntmps7
        go_wp2_with fail
        go_ret
        exact ⟨ret_bool_ hn.out.symm, Below.refl _ _⟩
      · have h3' : ¬ s.toList = [97, 110, 121] := by rw [Lib.toList_data]; exact h3
        have hg : Hid (s.data.toList.getD 0 0 = s[0]'h1) := by
          show _ = _
          rw [List.getD_eq_getElem?_getD, List.getElem?_eq_getElem (by omega)]
          rfl
        have hn : Hid (nameB s.data.toList = (decide (97 ≤ (s[0]'h1).toNat) && decide ((s[0]'h1).toNat ≤ 122) && s.data.toList.all nameC)) := by
          show _ = _
          unfold nameB
          rw [hg.out, decide_eq_true (show 1 ≤ s.data.toList.length by omega), decide_eq_true (show s.data.toList.length ≤ 12 by omega), bne_iff_ne.mpr h3]
          simp
        clear h3 hz
        by_cases h4 : 97 ≤ (s[0]'h1).toNat
        · by_cases h5 : (s[0]'h1).toNat ≤ 122
          · go_enter Try.func7, Try.ntmps7
            go_wp2_with fail
            refine (Try.strings_IndexFunc 12 #[] (enters_of Try.func12 (by kernel_rfl) rfl) oddR s w (odd_pays w)).mono ?_
            rintro e w' ⟨rfl, hb⟩
            go_wp2_with fail
            go_ret
            exact ⟨ret_bool_ (a := (!(s.toList == [97, 110, 121])) && decide (Lib.idxFunc oddR true s < 0)) (by rw [hn.out, Ix.out, decide_eq_true h4, decide_eq_true h5, beq_eq_false_iff_ne.mpr h3']; simp), hb⟩
          · go_enter Try.func7, Try.ntmps7
            go_wp2_with fail
            go_ret
            exact ⟨ret_bool_ (a := false) (by rw [hn.out, decide_eq_false h5]; simp), Below.refl _ _⟩
        · go_enter Try.func7, Try.ntmps7
          go_wp2_with fail
          go_ret
          exact ⟨ret_bool_ (a := false) (by rw [hn.out, decide_eq_false h4]; simp), Below.refl _ _⟩
    · have hn : Hid (nameB s.data.toList = false) := by
        show _ = _
        unfold nameB
        rw [decide_eq_false (show ¬ s.data.toList.length ≤ 12 by omega)]
        simp
      clear hz
      go_enter Try.func7, Try.ntmps7
      go_wp2_with fail
      go_ret
      exact ⟨ret_bool_ (a := false) hn.out.symm, Below.refl _ _⟩
  · have hn : Hid (nameB s.data.toList = false) := by
      show _ = _
      unfold nameB
      rw [decide_eq_false (show ¬ 1 ≤ s.data.toList.length by omega)]
      simp
    clear hz
    go_enter Try.func7, Try.ntmps7
    go_wp2_with fail
    go_ret
    exact ⟨ret_bool_ (a := false) hn.out.symm, Below.refl _ _⟩

theorem refName_calls (s : ByteArray) (hs : s.size ≤ 140737488351232) (w : World) : Calls Try.prog 8 #[.string s] w fun e w' => e = .returned (.bool (nameB s.data.toList)) ∧ Drawn0 w w' :=
  sallyportref06_Name.calls (s.size + 3) s _ w (refName_is s hs)
end Go.Proofs.Yteocdfahhndfoaa.Print
