/-
The walk of lang.Name and the reference's: whether a text is a name is what the plain function on its bytes says.
Conditions: texts within the reach.
-/
import Derived.Test.YteocdfahhndfoaaDoorPrint1
import Derived.Test.YteocdfahhndfoaaDoorShelf
import Derived.Test.YteocdfahhndfoaaDoorWordsPlain
import Derived.WalkKit
import Derived.LoopTactic
import Derived.IntWalk
import Derived.Lib.Hide
namespace Go.Proofs.YteocdfahhndfoaaDoor.Print
open Go.RowKit Go.Proofs.YteocdfahhndfoaaDoorW.PrintWords Go.Proofs.YteocdfahhndfoaaDoor.Plain

theorem wrap_next {i n : Nat} (h : i < n) (hn : n ≤ 140737488351232) : wrap64 ((i : Int) + 1) = ((i + 1 : Nat) : Int) := by
  unfold wrap64
  omega
theorem bt_at (s : ByteArray) (i : Nat) (h : i < s.size) : bt s (i : Int) = ((s[i]'h).toNat : Int) := by
  unfold bt
  rw [dif_pos (by simpa using h)]
  rfl
theorem drop_at (s : ByteArray) (i : Nat) (h : i < s.size) : s.data.toList.drop i = (s[i]'h) :: s.data.toList.drop (i + 1) := by
  have hz : s.data.toList.length = s.size := (Lib.size_eq s).symm
  rw [List.drop_eq_getElem_cons (by omega)]
  rfl
theorem u8_eq (c : UInt8) (n : Nat) (hn : n < 256) : ((c.toNat : Int) = (n : Int)) ↔ c = UInt8.ofNat n := by
  constructor
  · intro h
    apply UInt8.toNat_inj.mp
    rw [UInt8.toNat_ofNat_of_lt' (by simpa using hn)]
    omega
  · rintro rfl
    rw [UInt8.toNat_ofNat_of_lt' (by simpa using hn)]
theorem refName_from (s : ByteArray) (hs : s.size ≤ 140737488351232) : ∀ (d i k : Nat), i + d = s.size → d + 1 ≤ k → sallyportref06_Name.l0 k s (i : Int) = some ((s.data.toList.drop i).all nameC)
  | 0, i, k, hd, hk => by
    have hz : s.data.toList.length = s.size := (Lib.size_eq s).symm
    obtain ⟨m, rfl⟩ : ∃ m, k = m + 1 := ⟨k - 1, by omega⟩
    simp only [sallyportref06_Name.l0]
    rw [if_neg (by omega), List.drop_eq_nil_of_le (by omega)]
    rfl
  | d + 1, i, k, hd, hk => by
    have hlt : i < s.size := by omega
    obtain ⟨m, rfl⟩ : ∃ m, k = m + 1 := ⟨k - 1, by omega⟩
    simp only [sallyportref06_Name.l0]
    rw [if_pos (by omega), if_pos (by omega), wrap_next hlt hs, bt_at s i hlt, drop_at s i hlt, refName_from s hs d (i + 1) m (by omega) (by omega)]
    generalize s[i]'hlt = c
    have g1 : ((c.toNat : Int) ≥ 97) = (97 ≤ c.toNat) := propext (by omega)
    have g2 : ((c.toNat : Int) ≤ 122) = (c.toNat ≤ 122) := propext (by omega)
    have g3 : ((c.toNat : Int) ≥ 48) = (48 ≤ c.toNat) := propext (by omega)
    have g4 : ((c.toNat : Int) ≤ 57) = (c.toNat ≤ 57) := propext (by omega)
    have g5 : ((c.toNat : Int) = 95) = (c.toNat = 95) := propext (by omega)
    simp only [List.all_cons, nameC, g1, g2, g3, g4, g5]
    by_cases h1 : 97 ≤ c.toNat <;> by_cases h2 : c.toNat ≤ 122 <;> by_cases h3 : 48 ≤ c.toNat <;> by_cases h4 : c.toNat ≤ 57 <;> by_cases h5 : c.toNat = 95 <;> simp [h1, h2, h3, h4, h5]
theorem refName_is (s : ByteArray) (hs : s.size ≤ 140737488351232) : sallyportref06_Name.f (s.size + 3) s = some (nameB s.data.toList) := by
  have hz : s.data.toList.length = s.size := (Lib.size_eq s).symm
  have hl := refName_from s hs s.size 0 (s.size + 2) (by omega) (by omega)
  rw [List.drop_zero] at hl
  have hl : sallyportref06_Name.l0 (s.size + 2) s 0 = some (s.data.toList.all nameC) := hl
  have j0t : sallyportref06_Name.j0 (s.size + 3) s true = some false := by
    simp only [sallyportref06_Name.j0]
    rw [if_pos trivial]
  have j0f : sallyportref06_Name.j0 (s.size + 3) s false = some (s.data.toList.all nameC) := by
    rw [show s.size + 3 = (s.size + 2) + 1 from rfl]
    unfold sallyportref06_Name.j0
    simp only [Bool.false_eq_true, if_false]
    exact hl
  unfold sallyportref06_Name.f nameB
  by_cases h1 : (s.size : Int) < 1
  · rw [if_pos h1, j0t, decide_eq_false (by omega)]
    rfl
  · rw [if_neg h1]
    by_cases h2 : (s.size : Int) > 12
    · rw [if_pos h2, j0t, decide_eq_false (show ¬ s.data.toList.length ≤ 12 by omega)]
      simp
    · rw [if_neg h2, Lib.toList_data]
      by_cases h3 : s.data.toList = [97, 110, 121]
      · rw [if_pos h3, j0t, h3]
        rfl
      · rw [if_neg h3, if_pos (by omega)]
        have hb : bt s 0 = (((s.data.toList.getD 0 0)).toNat : Int) := by
          have := bt_at s 0 (by omega)
          rw [show ((0 : Nat) : Int) = 0 from rfl] at this
          rw [this, List.getD_eq_getElem?_getD, List.getElem?_eq_getElem (by omega)]
          rfl
        rw [hb]
        generalize (s.data.toList.getD 0 0).toNat = c
        have h3' : (s.data.toList != [97, 110, 121]) = true := bne_iff_ne.mpr h3
        rw [h3', decide_eq_true (show 1 ≤ s.data.toList.length by omega), decide_eq_true (show s.data.toList.length ≤ 12 by omega)]
        by_cases h4 : (c : Int) < 97
        · rw [if_pos h4, j0t, decide_eq_false (show ¬ 97 ≤ c by omega)]
          simp
        · rw [if_neg h4]
          by_cases h5 : (c : Int) > 122
          · rw [decide_eq_true h5, j0t, decide_eq_false (show ¬ c ≤ 122 by omega)]
            simp
          · rw [decide_eq_false h5, j0f, decide_eq_true (show 97 ≤ c by omega), decide_eq_true (show c ≤ 122 by omega)]
            simp

theorem odd_pays (w : World) : PredAt Tryd.prog 57 #[] encR oddR w := fun W r _ => by
  unfold FnGives
  have z1 : (97 : Int) ≤ (r : Int) ↔ 97 ≤ r := by omega
  have z2 : (r : Int) ≤ 122 ↔ r ≤ 122 := by omega
  have z3 : (48 : Int) ≤ (r : Int) ↔ 48 ≤ r := by omega
  have z4 : (r : Int) ≤ 57 ↔ r ≤ 57 := by omega
  have z5 : ((r : Int) == 95) = decide (r = 95) := by rw [Bool.eq_iff_iff]; simp; omega
  by_cases h1 : 97 ≤ r <;> by_cases h2 : r ≤ 122 <;> by_cases h3 : 48 ≤ r <;> by_cases h4 : r ≤ 57 <;> by_cases h5 : r = 95
  all_goals first
    | (exfalso; omega)
    | (go_enter Tryd.func57, Tryd.ntmps57
       go_wp2
       all_goals first | (exfalso; omega) | (go_ret; exact ⟨by simp [oddR, h1, h2, h3, h4, h5], 0, rfl⟩))

theorem ret_bool_ {a b : Bool} (h : a = b) : Ending.returned (.bool a) = Ending.returned (.bool b) := by rw [h]

set_option maxHeartbeats 1600000 in
theorem name_calls (s : ByteArray) (w : World) : Calls Tryd.prog 41 #[.string s] w fun e w' => e = .returned (.bool (nameB s.data.toList)) ∧ Below w.heap.size w w' := by
  have hz : s.data.toList.length = s.size := (Lib.size_eq s).symm
  have ix := idx_name s
  have Ix : Hid (decide (Lib.idxFunc oddR true s < 0) = s.data.toList.all nameC) := ix
  clear ix
  by_cases h1 : 1 ≤ s.size
  · by_cases h2 : s.size ≤ 12
    · by_cases h3 : s.data.toList = [97, 110, 121]
      · have h3' : s.toList = [97, 110, 121] := by rw [Lib.toList_data]; exact h3
        have hn : Hid (nameB s.data.toList = false) := by show _ = _; rw [h3]; rfl
        clear h3 hz
        go_enter Tryd.func41, Tryd.ntmps41
        go_wp2_with fail
        go_ret
        exact ⟨ret_bool_ hn.out.symm, Below.refl _ _⟩
      · have h3' : ¬ s.toList = [97, 110, 121] := by rw [Lib.toList_data]; exact h3
        have hg : Hid (s.data.toList.getD 0 0 = s[0]'h1) := by
          show _ = _
          rw [List.getD_eq_getElem?_getD, List.getElem?_eq_getElem (by omega)]
          rfl
        have hn : Hid (nameB s.data.toList = (decide (97 ≤ (s[0]'h1).toNat) && decide ((s[0]'h1).toNat ≤ 122) && s.data.toList.all nameC)) := by
          show _ = _
          unfold nameB
          rw [hg.out, decide_eq_true (show 1 ≤ s.data.toList.length by omega), decide_eq_true (show s.data.toList.length ≤ 12 by omega), bne_iff_ne.mpr h3]
          simp
        clear h3 hz
        by_cases h4 : 97 ≤ (s[0]'h1).toNat
        · by_cases h5 : (s[0]'h1).toNat ≤ 122
          · go_enter Tryd.func41, Tryd.ntmps41
            go_wp2_with fail
            refine (Tryd.strings_IndexFunc 57 #[] (enters_of Tryd.func57 (by kernel_rfl) rfl) oddR s w (odd_pays w)).mono ?_
            rintro e w' ⟨rfl, hb⟩
            go_wp2_with fail
            go_ret
            exact ⟨ret_bool_ (a := (!(s.toList == [97, 110, 121])) && decide (Lib.idxFunc oddR true s < 0)) (by rw [hn.out, Ix.out, decide_eq_true h4, decide_eq_true h5, beq_eq_false_iff_ne.mpr h3']; simp), hb⟩
          · go_enter Tryd.func41, Tryd.ntmps41
            go_wp2_with fail
            go_ret
            exact ⟨ret_bool_ (a := false) (by rw [hn.out, decide_eq_false h5]; simp), Below.refl _ _⟩
        · go_enter Tryd.func41, Tryd.ntmps41
          go_wp2_with fail
          go_ret
          exact ⟨ret_bool_ (a := false) (by rw [hn.out, decide_eq_false h4]; simp), Below.refl _ _⟩
    · have hn : Hid (nameB s.data.toList = false) := by
        show _ = _
        unfold nameB
        rw [decide_eq_false (show ¬ s.data.toList.length ≤ 12 by omega)]
        simp
      clear hz
      go_enter Tryd.func41, Tryd.ntmps41
      go_wp2_with fail
      go_ret
      exact ⟨ret_bool_ (a := false) hn.out.symm, Below.refl _ _⟩
  · have hn : Hid (nameB s.data.toList = false) := by
      show _ = _
      unfold nameB
      rw [decide_eq_false (show ¬ 1 ≤ s.data.toList.length by omega)]
      simp
    clear hz
    go_enter Tryd.func41, Tryd.ntmps41
    go_wp2_with fail
    go_ret
    exact ⟨ret_bool_ (a := false) hn.out.symm, Below.refl _ _⟩

theorem refName_calls (s : ByteArray) (hs : s.size ≤ 140737488351232) (w : World) : Calls Tryd.prog 5 #[.string s] w fun e w' => e = .returned (.bool (nameB s.data.toList)) ∧ Drawn0 w w' :=
  sallyportref06_Name.calls (s.size + 3) s _ w (refName_is s hs)
end Go.Proofs.YteocdfahhndfoaaDoor.Print
