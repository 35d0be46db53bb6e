/-
The walk of addr.number: a number of at most ten digits, without noughts ahead, or none.
Conditions: texts of at most 2^47 bytes.
-/
import Derived.Test.YtgbkeciimddpnaaGreatDoorShelf
import Derived.Test.YtgbkeciimddpnaaGreatDoorAddrP
import Derived.Test.YtgbkeciimddpnaaGreatDoorBase
import Derived.Lib.Strings
import Derived.Lib.Walk
import Derived.Lib.AtoiTie
import Derived.Lib.ConvBytes
import Derived.BigCall
import Derived.BigGuard
import Derived.BigQuiet
import Derived.Deep.QuietTactic
namespace Go.Proofs.YtgbkeciimddpnaaGreatDoor.Print
open Go Go.RowKit Go.Proofs.YtgbkeciimddpnaaGreatDoor.AddrP

theorem dropWhile_nil {p : UInt8 → Bool} : ∀ l : List UInt8, l.dropWhile p = [] ↔ l.all p = true
  | [] => by simp
  | c :: l => by
    rw [List.dropWhile_cons, List.all_cons]
    cases h : p c
    · simp
    · simpa using dropWhile_nil l
theorem trimS_nil (l cs : List UInt8) : Lib.trimS l cs = [] ↔ l.all (cs.contains ·) = true := by
  unfold Lib.trimS Lib.trimLeftS Lib.trimRightS
  rw [dropWhile_nil, List.all_reverse]
  constructor
  · intro h
    cases hd : l.reverse.dropWhile (cs.contains ·) with
    | nil => rw [dropWhile_nil, List.all_reverse] at hd; exact hd
    | cons c r =>
      have h1 : cs.contains c = true := by rw [hd] at h; simp at h; simpa using h.1
      have h2 := List.head?_dropWhile_not (cs.contains ·) l.reverse
      rw [hd] at h2
      simp at h2
      simp at h1
      exact absurd h1 h2
  · intro h
    have : l.reverse.dropWhile (cs.contains ·) = [] := by rw [dropWhile_nil, List.all_reverse]; exact h
    rw [this]; rfl
def ten : List UInt8 := [48, 49, 50, 51, 52, 53, 54, 55, 56, 57]
theorem ten_digit (c : UInt8) : ten.contains c = digit10 c := by
  have : ∀ n : Fin 256, ten.contains (UInt8.ofNat n.val) = digit10 (UInt8.ofNat n.val) := by decide +kernel
  have h := this ⟨c.toNat, c.toNat_lt⟩
  simpa using h
theorem trim_ten (l : List UInt8) : Lib.trimS l ten = [] ↔ l.all digit10 = true := by
  rw [trimS_nil, show (fun x => ten.contains x) = digit10 from funext ten_digit]
theorem decFrom_val : ∀ (l : List UInt8) (acc : Nat), l.all digit10 = true → Lib.decFrom acc l = some (val10 acc l)
  | [], _, _ => rfl
  | c :: l, acc, h => by
    rw [List.all_cons, Bool.and_eq_true] at h
    have hc := h.1
    unfold digit10 at hc
    simp only [Bool.and_eq_true, decide_eq_true_eq] at hc
    have hv : Lib.digitVal c = some (c.toNat - 48) := by unfold Lib.digitVal; rw [if_pos hc]
    rw [Lib.decFrom, hv]
    exact decFrom_val l _ h.2
theorem atoi_digits (l : List UInt8) (hne : l ≠ []) (hl : l.length ≤ 18) (h : l.all digit10 = true) : Lib.atoiAll l = .ok ((val10 0 l : Nat) : Int) := by
  rw [Lib.atoiAll_short l hl]
  cases l with
  | nil => exact absurd rfl hne
  | cons c r =>
    have hc : digit10 c = true := by rw [List.all_cons, Bool.and_eq_true] at h; exact h.1
    have h45 : (c == 45) = false := by
      rw [beq_eq_false_iff_ne]; rintro rfl; revert hc; decide
    have h43 : (c == 43) = false := by
      rw [beq_eq_false_iff_ne]; rintro rfl; revert hc; decide
    unfold Lib.atoi
    simp only [h45, h43, Bool.false_eq_true, if_false]
    unfold Lib.decNat
    rw [if_neg (by simp), decFrom_val _ _ h]
    rfl

/-- What number hands back. -/
def NumPost (r : Option Nat) (w : World) (e : Ending) (w' : World) : Prop := (match r with
  | some v => e = .returned (.tuple #[.int .i64 v, .bool true])
  | none => e = .returned (.tuple #[.int .i64 0, .bool false])) ∧ Below w.heap.size w w'

set_option maxHeartbeats 1600000 in
theorem number_empty (w : World) : Calls Tryz.prog 19 #[.string ⟨#[]⟩] w fun e w' => e = .returned (.tuple #[.int .i64 0, .bool false]) ∧ Below w.heap.size w w' := by
  go_enter Tryz.func19, Tryz.ntmps19
  go_wp2_with fail
  go_ret2
  exact ⟨rfl, Below.refl _ _⟩
set_option maxHeartbeats 1600000 in
theorem number_long (s : ByteArray) (h0 : s.toList.isEmpty = false) (h2 : 10 < s.size) (h3 : s.size ≤ 9223372036854775807) (w : World) : Calls Tryz.prog 19 #[.string s] w fun e w' => e = .returned (.tuple #[.int .i64 0, .bool false]) ∧ Below w.heap.size w w' := by
  have k1 : (10 : Int) < s.size := by omega
  go_enter Tryz.func19, Tryz.ntmps19
  go_wp2_with fail
  go_ret2
  exact ⟨rfl, Below.refl _ _⟩
set_option maxHeartbeats 1600000 in
theorem number_nought (s : ByteArray) (h0 : s.toList.isEmpty = false) (h2 : s.size ≤ 10) (h3 : 1 < s.size) (h4 : s[0] = 48) (w : World) : Calls Tryz.prog 19 #[.string s] w fun e w' => e = .returned (.tuple #[.int .i64 0, .bool false]) ∧ Below w.heap.size w w' := by
  have k1 : (s.size : Int) ≤ 10 := by omega
  have k2 : (1 : Int) < s.size := by omega
  have k3 : 0 < s.size := by omega
  go_enter Tryz.func19, Tryz.ntmps19
  go_wp2_with fail
  go_ret2
  exact ⟨rfl, Below.refl _ _⟩
set_option maxHeartbeats 1600000 in
theorem number_bad (s : ByteArray) (h0 : s.toList.isEmpty = false) (h2 : s.size ≤ 10) (h3 : 0 < s.size) (h4 : (((s[0]).toNat : Int) == 48) = false ∨ s.size = 1) (t : ByteArray) (ht : Hid (⟨(Lib.trimS s.data.toList ten).toArray⟩ = t)) (g0 : t.toList.isEmpty = false) (w : World) : Calls Tryz.prog 19 #[.string s] w fun e w' => e = .returned (.tuple #[.int .i64 0, .bool false]) ∧ Below w.heap.size w w' := by
  have k1 : (s.size : Int) ≤ 10 := by omega
  have hT := fun w => Tryz.strings_Trim_ascii s ⟨#[48, 49, 50, 51, 52, 53, 54, 55, 56, 57]⟩ w (by omega) (by decide) (ascii_of_all (by decide))
  have hT' : ∀ w, Calls Tryz.prog 33 #[.string s, .string ⟨#[48, 49, 50, 51, 52, 53, 54, 55, 56, 57]⟩] w fun e w' => e = .returned (.string t) ∧ Below w.heap.size w w' := fun w => (hT w).mono fun e w' ⟨a, b⟩ => ⟨by rw [a]; exact congrArg (fun x => Ending.returned (.string x)) ht.out, b⟩
  have HT := Lib.hid hT'
  clear hT hT' ht
  rcases h4 with h4 | h4
  · go_enter Tryz.func19, Tryz.ntmps19
    go_wp2_with (go_at_call 33; refine (HT.out _).mono ?_; rintro e w' ⟨rfl, hb⟩)
    go_ret2
    exact ⟨rfl, hb⟩
  · have k2 : (s.size : Int) ≤ 1 := by omega
    go_enter Tryz.func19, Tryz.ntmps19
    go_wp2_with (go_at_call 33; refine (HT.out _).mono ?_; rintro e w' ⟨rfl, hb⟩)
    all_goals go_ret2
    all_goals exact ⟨rfl, hb⟩
set_option maxHeartbeats 1600000 in
theorem number_good (s : ByteArray) (h0 : s.toList.isEmpty = false) (h2 : s.size ≤ 10) (h3 : 0 < s.size) (h4 : (((s[0]).toNat : Int) == 48) = false ∨ s.size = 1) (ht : Hid (Lib.trimS s.data.toList ten = [])) (v : Nat) (hv : Hid (Lib.atoiAll s.data.toList = .ok (v : Int))) (w : World) :
    Calls Tryz.prog 19 #[.string s] w fun e w' => e = .returned (.tuple #[.int .i64 v, .bool true]) ∧ Below w.heap.size w w' := by
  have k1 : (s.size : Int) ≤ 10 := by omega
  have hT := fun w => Tryz.strings_Trim_ascii s ⟨#[48, 49, 50, 51, 52, 53, 54, 55, 56, 57]⟩ w (by omega) (by decide) (ascii_of_all (by decide))
  have hT' : ∀ w, Calls Tryz.prog 33 #[.string s, .string ⟨#[48, 49, 50, 51, 52, 53, 54, 55, 56, 57]⟩] w fun e w' => e = .returned (.string ⟨#[]⟩) ∧ Below w.heap.size w w' := fun w => (hT w).mono fun e w' ⟨a, b⟩ => ⟨by rw [a]; exact congrArg (fun x => Ending.returned (.string (⟨x⟩ : ByteArray))) (congrArg List.toArray ht.out), b⟩
  have HT := Lib.hid hT'
  have hA : ∀ w, Calls Tryz.prog 34 #[.string s] w fun e w' => e = .returned (.tuple #[.int .i64 v, .nilIface]) ∧ Below w.heap.size w w' := fun w => (Tryz.strconv_Atoi_ok s (by omega) v hv.out w).mono fun e w' ⟨a, b⟩ => ⟨a, by
    rcases b with rfl | ⟨t, rfl⟩
    · exact Below.refl _ _
    · exact Lib.bytesWorld_below _ _ _⟩
  have HA := Lib.hid hA
  clear hT hT' ht hA hv
  rcases h4 with h4 | h4
  · go_enter Tryz.func19, Tryz.ntmps19
    go_wp2_with (go_at_call 33; refine (HT.out _).mono ?_; rintro e w1 ⟨rfl, hb⟩)
    go_at_call 34
    refine (HA.out _).mono ?_
    rintro e w2 ⟨rfl, hb2⟩
    have HB := bnext hb hb2
    clear hb hb2
    go_wp2_with fail
    go_quiet (fail)
    go_wp2_with fail
    go_ret2
    exact ⟨rfl, HB.trans ⟨rfl, rfl, rfl, Nat.le_refl _, fun _ _ => rfl⟩⟩
  · have k2 : (s.size : Int) ≤ 1 := by omega
    go_enter Tryz.func19, Tryz.ntmps19
    go_wp2_with (go_at_call 33; refine (HT.out _).mono ?_; rintro e w1 ⟨rfl, hb⟩)
    all_goals
      go_at_call 34
      refine (HA.out _).mono ?_
      rintro e w2 ⟨rfl, hb2⟩
      have HB := bnext hb hb2
      clear hb hb2
      go_wp2_with fail
      go_quiet (fail)
      go_wp2_with fail
      go_ret2
      exact ⟨rfl, HB.trans ⟨rfl, rfl, rfl, Nat.le_refl _, fun _ _ => rfl⟩⟩

theorem emp_iff (s : ByteArray) : s.toList.isEmpty = true ↔ s.data.toList = [] := by rw [Lib.toList_data]; simp
theorem emp_false (s : ByteArray) (h : s.data.toList ≠ []) : s.toList.isEmpty = false := by rw [Lib.toList_data]; simpa using h
theorem number_calls (s : ByteArray) (hs : s.size ≤ 9223372036854775807) (w : World) : Calls Tryz.prog 19 #[.string s] w (NumPost (numL s.data.toList) w) := by
  have hz : s.data.toList.length = s.size := (Lib.size_eq s).symm
  unfold NumPost
  by_cases h0 : s.data.toList = []
  · obtain rfl : s = ⟨#[]⟩ := by rw [← Lib.mk_data s, h0]
    have : numL (⟨#[]⟩ : ByteArray).data.toList = none := rfl
    rw [this]
    exact number_empty w
  · have he := emp_false s h0
    have hpos : 0 < s.size := by
      rw [← hz]
      exact List.length_pos_iff.mpr h0
    by_cases h1 : 10 < s.size
    · have : numL s.data.toList = none := by unfold numL; rw [if_pos (Or.inr (Or.inl (by omega)))]
      rw [this]
      exact number_long s he h1 hs w
    · have hhead : s.data.toList.head? = some s[0] := by
        rw [List.head?_eq_getElem?, List.getElem?_eq_getElem (by omega)]
        rfl
      by_cases h2 : s[0] = 48 ∧ 1 < s.size
      · have : numL s.data.toList = none := by unfold numL; rw [if_pos (Or.inr (Or.inr (Or.inl ⟨by rw [hhead, h2.1], by omega⟩)))]
        rw [this]
        exact number_nought s he (by omega) h2.2 h2.1 w
      · have h4 : (((s[0]).toNat : Int) == 48) = false ∨ s.size = 1 := by
          by_cases h3 : s[0] = 48
          · exact Or.inr (by have : ¬ 1 < s.size := fun h => h2 ⟨h3, h⟩; omega)
          · left
            rw [beq_eq_false_iff_ne]
            intro e
            exact h3 (UInt8.toNat_inj.mp (by have : (48 : UInt8).toNat = 48 := rfl; omega))
        by_cases h5 : s.data.toList.all digit10 = true
        · have : numL s.data.toList = some (val10 0 s.data.toList) := by
            unfold numL
            rw [if_neg]
            rintro (e | e | ⟨e1, e2⟩ | e)
            · exact h0 e
            · omega
            · rw [hhead] at e1
              exact h2 ⟨Option.some.inj e1, by omega⟩
            · rw [h5] at e; cases e
          rw [this]
          exact number_good s he (by omega) hpos h4 ((trim_ten _).mpr h5) _ (atoi_digits _ h0 (by omega) h5) w
        · have : numL s.data.toList = none := by
            unfold numL
            rw [if_pos (Or.inr (Or.inr (Or.inr (by simpa using h5))))]
          rw [this]
          refine number_bad s he (by omega) hpos h4 _ (Lib.hid rfl) (emp_false _ ?_) w
          intro e
          exact h5 ((trim_ten _).mp e)
end Go.Proofs.YtgbkeciimddpnaaGreatDoor.Print
