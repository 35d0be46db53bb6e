/-
The reference's reading of an address, as printed, comes to plain functions on lists of bytes: the pieces between a byte, numbers, groups.
Conditions: texts of at most 64 bytes.
-/
import Derived.Test.YtgbkeciimddpnaaGreatDoorAddrRs
import Derived.Test.YtgbkeciimddpnaaGreatDoorPrint4
import Derived.Test.YtgbkeciimddpnaaGreatDoorPrint3
import Derived.Test.YtgbkeciimddpnaaGreatDoorPrint2
namespace Go.Proofs.YtgbkeciimddpnaaGreatDoor.Print
open Go Go.RowKit Go.Proofs.YtgbkeciimddpnaaGreatDoorW.PrintWords Go.Proofs.YtgbkeciimddpnaaGreatDoor.AddrP

theorem wrap_next {i n : Nat} (h : i < n) (hn : n ≤ 140737488351232) : wrap64 ((i : Int) + 1) = ((i + 1 : Nat) : Int) := by
  unfold wrap64
  omega
theorem bt_at (s : ByteArray) (i : Nat) (h : i < s.size) : bt s (i : Int) = ((s[i]'h).toNat : Int) := by
  unfold bt
  rw [dif_pos (by simpa using h)]
  rfl
theorem drop_at (s : ByteArray) (i : Nat) (h : i < s.size) : s.data.toList.drop i = (s[i]'h) :: s.data.toList.drop (i + 1) := by
  have hz : s.data.toList.length = s.size := (Lib.size_eq s).symm
  rw [List.drop_eq_getElem_cons (by omega)]
  rfl
theorem u8_eq (c : UInt8) (n : Nat) (hn : n < 256) : ((c.toNat : Int) = (n : Int)) ↔ c = UInt8.ofNat n := by
  constructor
  · intro h
    apply UInt8.toNat_inj.mp
    rw [UInt8.toNat_ofNat_of_lt' (by simpa using hn)]
    omega
  · rintro rfl
    rw [UInt8.toNat_ofNat_of_lt' (by simpa using hn)]
theorem extract_mkB (s : ByteArray) (i j : Nat) : s.extract i j = mkB ((s.data.toList.take j).drop i) := by
  apply ByteArray.ext
  apply Array.toList_inj.mp
  rw [Lib.extract_data]
  show _ = (s.data.toList.take j).drop i
  rw [List.drop_take]

/-- The pieces, with what is open so far. -/
def cutFrom (c : UInt8) (cur : List UInt8) : List UInt8 → List (List UInt8)
  | [] => [cur]
  | b :: l => if b = c then cur :: cutFrom c [] l else cutFrom c (cur ++ [b]) l
theorem cutFrom_at (c : UInt8) : ∀ (l cur : List UInt8), cutFrom c cur l = match cutAt c l with | [] => [] | x :: r => (cur ++ x) :: r
  | [], cur => by simp [cutFrom, cutAt]
  | b :: l, cur => by
    rw [cutFrom, cutAt]
    by_cases h : b = c
    · rw [if_pos h, if_pos h]
      have ih := cutFrom_at c l []
      cases hc : cutAt c l with
      | nil => exact absurd hc (cutAt_ne c l)
      | cons x r => rw [hc] at ih; rw [ih]; simp
    · rw [if_neg h, if_neg h]
      have ih := cutFrom_at c l (cur ++ [b])
      cases hc : cutAt c l with
      | nil => exact absurd hc (cutAt_ne c l)
      | cons x r => rw [hc] at ih; rw [ih]; simp
theorem refCut_from (s : ByteArray) (c : UInt8) (hs : s.size ≤ 4096) : ∀ (d i j k : Nat) (acc : List ByteArray), j + d = s.size → i ≤ j → d + 1 ≤ k → acc.length ≤ i →
    sallyportref03_cut.l0 k s (c.toNat : Int) acc (i : Int) (j : Int) = some (acc ++ (cutFrom c ((s.data.toList.take j).drop i) (s.data.toList.drop j)).map mkB)
  | 0, i, j, k, acc, hj, hi, hk, ha => by
    have hz : s.data.toList.length = s.size := (Lib.size_eq s).symm
    obtain ⟨m, rfl⟩ : ∃ m, k = m + 1 := ⟨k - 1, by omega⟩
    simp only [sallyportref03_cut.l0]
    rw [if_neg (by omega), if_pos (by omega), if_pos (by omega), if_pos (by omega), show s.data.toList.drop j = [] from List.drop_eq_nil_of_le (by omega), cutFrom]
    have e : ((i : Nat) : Int).toNat = i := by omega
    rw [e, extract_mkB]
    rw [show j = s.size by omega]
    rfl
  | d + 1, i, j, k, acc, hj, hi, hk, ha => by
    have hz : s.data.toList.length = s.size := (Lib.size_eq s).symm
    have hlt : j < s.size := by omega
    obtain ⟨m, rfl⟩ : ∃ m, k = m + 1 := ⟨k - 1, by omega⟩
    simp only [sallyportref03_cut.l0]
    rw [if_pos (by omega), if_pos (by omega), bt_at s j hlt, drop_at s j hlt, wrap_next hlt (by omega), cutFrom]
    by_cases h : s[j] = c
    · rw [if_pos (by rw [h]), if_pos (by omega), if_pos (by omega), if_pos (by omega), if_pos (by omega), if_pos h]
      rw [refCut_from s c hs d (j + 1) (j + 1) m _ (by omega) (by omega) (by omega) (by simp; omega)]
      have e1 : ((i : Nat) : Int).toNat = i := by omega
      have e2 : ((j : Nat) : Int).toNat = j := by omega
      rw [e1, e2, extract_mkB, List.drop_eq_nil_of_le (show ((s.data.toList.take (j + 1)).length ≤ j + 1) by rw [List.length_take]; omega)]
      simp
    · rw [if_neg (fun e => h (UInt8.toNat_inj.mp (by omega))), if_neg h]
      rw [refCut_from s c hs d i (j + 1) m acc (by omega) (by omega) (by omega) ha]
      have e : (s.data.toList.take (j + 1)).drop i = (s.data.toList.take j).drop i ++ [s[j]] := by
        rw [List.take_add_one, List.getElem?_eq_getElem (by omega), List.drop_append_of_le_length (by rw [List.length_take]; omega)]
        rfl
      rw [e]
theorem refCut_is (s : ByteArray) (c : UInt8) (hs : s.size ≤ 4096) (k : Nat) (hk : s.size + 1 ≤ k) : sallyportref03_cut.f k s (c.toNat : Int) = some ((cutAt c s.data.toList).map mkB) := by
  unfold sallyportref03_cut.f
  have h := refCut_from s c hs s.size 0 0 k [] (by omega) (by omega) hk (by simp)
  rw [List.drop_zero, List.take_zero, List.drop_zero, List.nil_append, cutFrom_at] at h
  have h0 : ((0 : Nat) : Int) = 0 := rfl
  rw [h0] at h
  rw [h]
  cases hc : cutAt c s.data.toList with
  | nil => exact absurd hc (cutAt_ne c _)
  | cons x r => simp

/-- A number as the reference tells it; -1: none. -/
def numI (s : List UInt8) : Int := match numL s with
  | some n => (n : Int)
  | none => -1
theorem val10_nil (a : Nat) : val10 a [] = a := rfl
theorem val10_cons (a : Nat) (c : UInt8) (l : List UInt8) : val10 a (c :: l) = val10 (a * 10 + (c.toNat - 48)) l := by
  have h := val10_app [c] l a
  rw [List.singleton_append, val10_one] at h
  exact h
theorem wrap_mid (n : Nat) (h : n ≤ 1000000000000) : wrap64 (n : Int) = (n : Int) := by unfold wrap64; omega
theorem refNum_from (s : ByteArray) (hs : s.size ≤ 10) : ∀ (d i k a : Nat), i + d = s.size → d + 1 ≤ k → a < 10 ^ i →
    sallyportref03_Number.l0 k s (a : Int) (i : Int) = some (if (s.data.toList.drop i).all digit10 = true then ((val10 a (s.data.toList.drop i) : Nat) : Int) else -1) := by
  intro d
  induction d with
  | zero =>
    intro i k a hi hk ha
    have hz : s.data.toList.length = s.size := (Lib.size_eq s).symm
    obtain ⟨m, rfl⟩ : ∃ m, k = m + 1 := ⟨k - 1, by omega⟩
    simp only [sallyportref03_Number.l0]
    rw [if_neg (by omega), List.drop_eq_nil_of_le (by omega), val10_nil]
    rfl
  | succ d ihd =>
    intro i k a hi hk ha
    have hlt : i < s.size := by omega
    obtain ⟨m, rfl⟩ : ∃ m, k = m + 1 := ⟨k - 1, by omega⟩
    simp only [sallyportref03_Number.l0]
    rw [if_pos (by omega), if_pos (by omega), bt_at s i hlt, drop_at s i hlt, List.all_cons, val10_cons, wrap_next hlt (by omega)]
    generalize s[i] = c
    have hc256 := c.toNat_lt
    unfold digit10
    by_cases h1 : c.toNat < 48
    · rw [if_pos (by omega), decide_eq_false (show ¬ 48 ≤ c.toNat by omega)]
      simp
    · rw [if_neg (by omega)]
      by_cases h2 : 57 < c.toNat
      · rw [if_pos (by omega), decide_eq_false (show ¬ c.toNat ≤ 57 by omega)]
        simp
      · have ha10 : a < 10 ^ 9 := Nat.lt_of_lt_of_le ha (Nat.pow_le_pow_right (by omega) (by omega))
        have e9 : (10 : Nat) ^ 9 = 1000000000 := by decide
        rw [if_neg (by omega)]
        have e1 : wrap64 (wrap64 ((a : Int) * 10) + ((c.toNat : Int) - 48) % 256) = ((a * 10 + (c.toNat - 48) : Nat) : Int) := by
          have q1 : wrap64 ((a : Int) * 10) = ((a * 10 : Nat) : Int) := by rw [show (a : Int) * 10 = ((a * 10 : Nat) : Int) by omega]; exact wrap_mid _ (by omega)
          have q2 : ((c.toNat : Int) - 48) % 256 = ((c.toNat - 48 : Nat) : Int) := by omega
          rw [q1, q2, show ((a * 10 : Nat) : Int) + ((c.toNat - 48 : Nat) : Int) = ((a * 10 + (c.toNat - 48) : Nat) : Int) by omega]
          exact wrap_mid _ (by omega)
        rw [e1]
        have ih := ihd (i + 1) m (a * 10 + (c.toNat - 48)) (by omega) (by omega) (by rw [Nat.pow_succ]; omega)
        unfold digit10 at ih
        rw [ih, decide_eq_true (show 48 ≤ c.toNat by omega), decide_eq_true (show c.toNat ≤ 57 by omega)]
        simp only [Bool.and_self, Bool.true_and]
theorem refNum_is (s : ByteArray) (k : Nat) (hk : 20 ≤ k) (hsz : s.size ≤ 9223372036854775807) : sallyportref03_Number.f k s = some (numI s.data.toList) := by
  have hz : s.data.toList.length = s.size := (Lib.size_eq s).symm
  obtain ⟨m, rfl⟩ : ∃ m, k = m + 1 := ⟨k - 1, by omega⟩
  have jt : sallyportref03_Number.j0 (m + 1) s true = some (-1) := by simp only [sallyportref03_Number.j0]; rw [if_pos trivial]
  unfold sallyportref03_Number.f numI numL
  by_cases h0 : s.data.toList = []
  · rw [if_pos (by rw [h0] at hz; simp at hz; omega), jt, if_pos (Or.inl h0)]
  · have hpos : 0 < s.size := by rw [← hz]; exact List.length_pos_iff.mpr h0
    rw [if_neg (by omega)]
    by_cases h1 : 10 < s.size
    · rw [if_pos (by omega), jt, if_pos (Or.inr (Or.inl (by omega)))]
    · rw [if_neg (by omega), if_pos (by omega)]
      have hb0 := bt_at s 0 hpos
      have e0 : ((0 : Nat) : Int) = 0 := rfl
      rw [e0] at hb0
      rw [hb0]
      have hhead : s.data.toList.head? = some s[0] := by
        rw [List.head?_eq_getElem?, List.getElem?_eq_getElem (by omega)]
        rfl
      have jf : sallyportref03_Number.j0 (m + 1) s false = some (if s.data.toList.all digit10 = true then ((val10 0 s.data.toList : Nat) : Int) else -1) := by
        simp only [sallyportref03_Number.j0]
        rw [if_neg (by simp)]
        have h := refNum_from s (by omega) s.size 0 m 0 (by omega) (by omega) (by simp)
        rw [List.drop_zero, e0] at h
        exact h
      have fin : (s.data.toList.head? = some 48 ∧ 1 < s.data.toList.length) ∨ ¬ (s.data.toList.head? = some 48 ∧ 1 < s.data.toList.length) := Classical.em _
      rcases fin with h2 | h2
      · have h48 : s[0] = 48 := by rw [hhead] at h2; exact Option.some.inj h2.1
        rw [if_pos (by rw [h48]; rfl), decide_eq_true (by omega), jt, if_pos (Or.inr (Or.inr (Or.inl h2)))]
      · have hj : ∀ b : Bool, b = false → sallyportref03_Number.j0 (m + 1) s b = some (match (if s.data.toList = [] ∨ 10 < s.data.toList.length ∨ s.data.toList.head? = some 48 ∧ 1 < s.data.toList.length ∨ s.data.toList.all digit10 = false then none else some (val10 0 s.data.toList)) with | some n => (n : Int) | none => -1) := by
          rintro b rfl
          rw [jf]
          by_cases h3 : s.data.toList.all digit10 = true
          · rw [if_pos h3, if_neg]
            rintro (e | e | e | e)
            · exact h0 e
            · omega
            · exact h2 e
            · rw [h3] at e; cases e
          · rw [if_neg h3, if_pos (Or.inr (Or.inr (Or.inr (by simpa using h3))))]
        by_cases h4 : s[0] = 48
        · rw [if_pos (by rw [h4]; rfl)]
          exact hj _ (decide_eq_false (fun e => h2 ⟨by rw [hhead, h4], by omega⟩))
        · rw [if_neg (fun e => h4 (UInt8.toNat_inj.mp (by have : (48 : UInt8).toNat = 48 := rfl; omega)))]
          exact hj _ rfl

/-! Groups. -/
/-- A digit to the base sixteen, small letters alone. -/
def rhex (c : UInt8) : Option Nat := if 48 ≤ c.toNat ∧ c.toNat ≤ 57 then some (c.toNat - 48) else if 97 ≤ c.toNat ∧ c.toNat ≤ 102 then some (c.toNat - 87) else none
def rhexI (c : UInt8) : Int := match rhex c with
  | some n => (n : Int)
  | none => -1
theorem refHex_is (c : UInt8) (k : Nat) (hk : 1 ≤ k) : sallyportref03_hex.f k (c.toNat : Int) = some (rhexI c) := by
  obtain ⟨m, rfl⟩ : ∃ m, k = m + 1 := ⟨k - 1, by omega⟩
  have hc256 := c.toNat_lt
  unfold sallyportref03_hex.f rhexI rhex
  have j0 : ∀ b : Bool, b = (decide (48 ≤ c.toNat) && decide (c.toNat ≤ 57)) → sallyportref03_hex.j0 (m + 1) (c.toNat : Int) b = some (match (if 48 ≤ c.toNat ∧ c.toNat ≤ 57 then some (c.toNat - 48) else if 97 ≤ c.toNat ∧ c.toNat ≤ 102 then some (c.toNat - 87) else none) with | some n => (n : Int) | none => -1) := by
    intro b hb
    simp only [sallyportref03_hex.j0]
    by_cases h : 48 ≤ c.toNat ∧ c.toNat ≤ 57
    · rw [if_pos h, hb, decide_eq_true h.1, decide_eq_true h.2, if_pos (by rfl)]
      congr 1
      show ((c.toNat : Int) - 48) % 256 = ((c.toNat - 48 : Nat) : Int)
      omega
    · have hb' : b = false := by
        rw [hb]
        by_cases h1 : 48 ≤ c.toNat
        · rw [decide_eq_false (fun e => h ⟨h1, e⟩)]; simp
        · rw [decide_eq_false h1]; rfl
      rw [if_neg h, hb', if_neg (by simp)]
      by_cases h2 : 97 ≤ c.toNat
      · rw [if_pos (by omega)]
        by_cases h3 : c.toNat ≤ 102
        · rw [if_pos (by omega), if_pos ⟨h2, h3⟩]
          congr 1
          show ((c.toNat : Int) - 97) % 256 + 10 = ((c.toNat - 87 : Nat) : Int)
          omega
        · rw [if_neg (by omega), if_neg (fun e => h3 e.2)]
      · rw [if_neg (by omega), if_neg (fun e => h2 e.1)]
  by_cases h1 : 48 ≤ c.toNat
  · rw [if_pos (by omega)]
    exact j0 _ (by rw [decide_eq_true h1, Bool.true_and, Bool.eq_iff_iff]; simp; omega)
  · rw [if_neg (by omega)]
    exact j0 _ (by rw [decide_eq_false h1]; rfl)
/-- Digits read on behind a number. -/
def rdig (acc : Nat) : List UInt8 → Option Nat
  | [] => some acc
  | c :: l => match rhex c with
    | none => none
    | some d => rdig (acc * 16 + d) l
def rgrp (w : List UInt8) : Option Nat := if w.length < 1 ∨ 4 < w.length then none else rdig 0 w
/-- 64 bits and 64 bits, one group on. -/
def stepHL (p : Nat × Nat) (n : Nat) : Nat × Nat := (p.1 * 65536 % 18446744073709551616 + p.2 / 281474976710656, p.2 * 65536 % 18446744073709551616 + n)
/-- The groups of some words, behind some address: what is reached, and whether all were groups. -/
def rgFrom (p : Nat × Nat) : List (List UInt8) → (Nat × Nat) × Bool
  | [] => (p, true)
  | w :: r => match rgrp w with
    | none => (p, false)
    | some n => rgFrom (stepHL p n) r
theorem rhex_lt (c : UInt8) (d : Nat) (h : rhex c = some d) : d ≤ 15 := by
  unfold rhex at h
  split at h
  · obtain rfl := Option.some.inj h; omega
  · split at h
    · obtain rfl := Option.some.inj h; omega
    · cases h
theorem rdig_lt : ∀ (l : List UInt8) (a n k : Nat), rdig a l = some n → a < 16 ^ k → n < 16 ^ (k + l.length)
  | [], a, n, k, h, ha => by
    simp only [rdig, Option.some.injEq] at h
    subst h; exact ha
  | c :: l, a, n, k, h, ha => by
    rw [rdig] at h
    cases hd : rhex c with
    | none => rw [hd] at h; cases h
    | some d =>
      rw [hd] at h
      have := rhex_lt c d hd
      have := rdig_lt l _ n (k + 1) h (by rw [Nat.pow_succ]; omega)
      rw [List.length_cons, show k + (l.length + 1) = k + 1 + l.length by omega]
      exact this
theorem rgrp_lt (w : List UInt8) (n : Nat) (h : rgrp w = some n) : n < 65536 := by
  unfold rgrp at h
  split at h
  · cases h
  · have h2 := rdig_lt w 0 n 0 h (by simp)
    have h3 : 16 ^ (0 + w.length) ≤ 16 ^ 4 := Nat.pow_le_pow_right (by omega) (by omega)
    have h4 : (16 : Nat) ^ 4 = 65536 := by decide
    omega
theorem step_bits (p : Nat × Nat) (n : Nat) (h1 : p.1 < 18446744073709551616) (h2 : p.2 < 18446744073709551616) (hn : n < 65536) :
    bits .or .u64 (IntKind.u64.wrap ((p.1 : Int) * 65536)) ((p.2 : Int) / 281474976710656) = (((stepHL p n).1 : Nat) : Int) ∧ bits .or .u64 (IntKind.u64.wrap ((p.2 : Int) * 65536)) (IntKind.u64.wrap (n : Int)) = (((stepHL p n).2 : Nat) : Int) ∧ (stepHL p n).1 < 18446744073709551616 ∧ (stepHL p n).2 < 18446744073709551616 := by
  have join : ∀ a x : Nat, a < 18446744073709551616 → x < 65536 → bits .or .u64 (IntKind.u64.wrap ((a : Int) * 65536)) (x : Int) = ((a * 65536 % 18446744073709551616 + x : Nat) : Int) := by
    intro a x ha hx
    rw [IntKind.wrap_u64]
    have hm : ((a : Int) * 65536) % 18446744073709551616 = ((a * 65536 % 18446744073709551616 : Nat) : Int) := by omega
    rw [hm]
    have hd : a * 65536 % 18446744073709551616 % 65536 = 0 := by omega
    have hl : a * 65536 % 18446744073709551616 ≤ 18446744073709486080 := by omega
    generalize a * 65536 % 18446744073709551616 = y at hd hl
    have := bits_join .u64 64 (by decide) (fun n k0 k1 => IntWalk.u64_in n (by omega)) 16 (y : Int) (x : Int) (by omega) (by omega) (by omega) (by omega) (by omega) (by omega)
    rw [this]; rfl
  have hq : (p.2 : Int) / 281474976710656 = ((p.2 / 281474976710656 : Nat) : Int) := by omega
  refine ⟨?_, ?_, ?_, ?_⟩
  · rw [hq]; exact join p.1 _ h1 (by omega)
  · rw [IntWalk.u64_in (n : Int) (by omega)]; exact join p.2 n h2 hn
  · unfold stepHL; show p.1 * 65536 % 18446744073709551616 + p.2 / 281474976710656 < _; omega
  · unfold stepHL; show p.2 * 65536 % 18446744073709551616 + n < _; omega

theorem rdOf_at (ws : List (List UInt8)) (i : Nat) (w : List UInt8) (h : ws[i]? = some w) : rdOf ByteArray.empty (ws.map mkB) (i : Int) = mkB w := by
  unfold rdOf
  simp [h]
theorem bt_mkB (w : List UInt8) (j : Nat) (c : UInt8) (h : w[j]? = some c) : bt (mkB w) (j : Int) = (c.toNat : Int) := by
  have hlt : j < w.length := by
    rcases Nat.lt_or_ge j w.length with h' | h'
    · exact h'
    · rw [List.getElem?_eq_none h'] at h; cases h
  rw [bt_at (mkB w) j (by rw [mkB_size]; exact hlt)]
  congr 1
  rw [List.getElem?_eq_getElem hlt] at h
  have := Option.some.inj h
  rw [← this]
  rfl
abbrev GR := Int × Int × Int × Bool
theorem refGrp_in (ws : List (List UInt8)) (i : Nat) (w : List UInt8) (hw : ws[i]? = some w) (hlen : ws.length ≤ 4096) (hw4 : w.length ≤ 4) (h l : Int) (K0 : Nat) (cont : Nat → Option GR)
    (hcont : ∀ (n k' : Nat), n < 65536 → K0 ≤ k' → sallyportref03_groups.l0 k' (ws.map mkB) ((i + 1 : Nat) : Int) (bits .or .u64 (IntKind.u64.wrap (h * 65536)) (l / 281474976710656)) (bits .or .u64 (IntKind.u64.wrap (l * 65536)) (IntKind.u64.wrap (n : Int))) = cont n) :
    ∀ (e j k acc : Nat), j + e = w.length → acc < 16 ^ j → e + 1 + K0 ≤ k →
      sallyportref03_groups.l1 k (ws.map mkB) (i : Int) (acc : Int) (j : Int) h l = match rdig acc (w.drop j) with | none => some (h, l, 0, false) | some n => cont n := by
  have hi : i < ws.length := by
    rcases Nat.lt_or_ge i ws.length with h' | h'
    · exact h'
    · rw [List.getElem?_eq_none h'] at hw; cases hw
  intro e
  induction e with
  | zero =>
    intro j k acc hj ha hk
    obtain ⟨m, rfl⟩ : ∃ m, k = m + 1 := ⟨k - 1, by omega⟩
    simp only [sallyportref03_groups.l1]
    rw [if_pos (by omega), if_pos (by rw [List.length_map]; omega), rdOf_at ws i w hw, mkB_size, if_neg (by omega), wrap_next hi (by omega), List.drop_eq_nil_of_le (by omega)]
    simp only [rdig]
    have h16 : acc < 65536 := Nat.lt_of_lt_of_le ha (Nat.le_trans (Nat.pow_le_pow_right (by omega) (show j ≤ 4 by omega)) (by decide))
    exact hcont acc m h16 (by omega)
  | succ e ih =>
    intro j k acc hj ha hk
    obtain ⟨m, rfl⟩ : ∃ m, k = m + 1 := ⟨k - 1, by omega⟩
    obtain ⟨c, hc⟩ : ∃ c, w[j]? = some c := ⟨_, List.getElem?_eq_getElem (by omega)⟩
    have hdrop : w.drop j = c :: w.drop (j + 1) := by
      rw [List.drop_eq_getElem_cons (by omega)]
      rw [List.getElem?_eq_getElem (by omega)] at hc
      rw [Option.some.inj hc]
    simp only [sallyportref03_groups.l1]
    rw [if_pos (by omega), if_pos (by rw [List.length_map]; omega), rdOf_at ws i w hw, mkB_size, if_pos (by omega), if_pos (by omega), bt_mkB w j c hc, refHex_is c m (by omega), hdrop]
    simp only [Option.bind_some, rdig]
    unfold rhexI
    cases hr : rhex c with
    | none => simp
    | some d =>
      have hd := rhex_lt c d hr
      simp only
      have h16 : acc < 65536 := Nat.lt_of_lt_of_le ha (Nat.le_trans (Nat.pow_le_pow_right (by omega) (show j ≤ 4 by omega)) (by decide))
      have HA := Lib.hid ha
      clear ha
      have e1 : wrap64 (wrap64 ((acc : Int) * 16) + (d : Int)) = ((acc * 16 + d : Nat) : Int) := by
        have q1 : wrap64 ((acc : Int) * 16) = ((acc * 16 : Nat) : Int) := by rw [show (acc : Int) * 16 = ((acc * 16 : Nat) : Int) by omega]; exact wrap_mid _ (by omega)
        rw [q1, show ((acc * 16 : Nat) : Int) + (d : Int) = ((acc * 16 + d : Nat) : Int) by omega]
        exact wrap_mid _ (by omega)
      have hdn : ¬ ((d : Int) < 0) := by omega
      have hjw : j < w.length := by omega
      have hwl : w.length ≤ 140737488351232 := by omega
      have hj1 : j + 1 + e = w.length := by omega
      have hk1 : e + 1 + K0 ≤ m := by omega
      rw [if_neg hdn, e1, wrap_next hjw hwl]
      have hnext : acc * 16 + d < 16 ^ (j + 1) := by
        have ha := HA.out
        rw [Nat.pow_succ]
        generalize 16 ^ j = P at ha ⊢
        clear hk hj h16 hcont hlen HA hk1 hj1
        omega
      exact ih (j + 1) m (acc * 16 + d) hj1 hnext hk1
def grRes (len : Nat) (q : (Nat × Nat) × Bool) : GR := (q.1.1, q.1.2, if q.2 = true then (len : Int) else 0, q.2 && decide (len ≤ 8))
theorem refGrp_from (ws : List (List UInt8)) (hlen : ws.length ≤ 4096) : ∀ (d i k : Nat) (p : Nat × Nat), i + d = ws.length → 8 * d + 2 ≤ k → p.1 < 18446744073709551616 → p.2 < 18446744073709551616 →
    sallyportref03_groups.l0 k (ws.map mkB) (i : Int) (p.1 : Int) (p.2 : Int) = some (grRes ws.length (rgFrom p (ws.drop i))) := by
  intro d
  induction d with
  | zero =>
    intro i k p hi hk h1 h2
    obtain ⟨m, rfl⟩ : ∃ m, k = m + 1 := ⟨k - 1, by omega⟩
    simp only [sallyportref03_groups.l0]
    rw [if_neg (by rw [List.length_map]; omega), List.drop_eq_nil_of_le (by omega), List.length_map]
    unfold rgFrom grRes
    simp only [if_true, Bool.true_and]
    congr 4
    rw [Bool.eq_iff_iff]; simp; omega
  | succ d ih =>
    intro i k p hi hk h1 h2
    obtain ⟨m, rfl⟩ : ∃ m, k = m + 1 + 1 := ⟨k - 2, by omega⟩
    obtain ⟨w, hw⟩ : ∃ w, ws[i]? = some w := ⟨_, List.getElem?_eq_getElem (by omega)⟩
    have hdrop : ws.drop i = w :: ws.drop (i + 1) := by
      rw [List.drop_eq_getElem_cons (by omega)]
      rw [List.getElem?_eq_getElem (by omega)] at hw
      rw [Option.some.inj hw]
    have j1t : sallyportref03_groups.j1 (m + 1) (ws.map mkB) (i : Int) true (p.1 : Int) (p.2 : Int) = some ((p.1 : Int), (p.2 : Int), 0, false) := by simp only [sallyportref03_groups.j1]; rw [if_pos trivial]
    simp only [sallyportref03_groups.l0]
    rw [if_pos (by rw [List.length_map]; omega), if_pos (by omega), rdOf_at ws i w hw, mkB_size, hdrop, rgFrom]
    by_cases h0 : w.length < 1
    · have hn : rgrp w = none := by unfold rgrp; rw [if_pos (Or.inl h0)]
      rw [if_pos (by omega), j1t, hn]
      rfl
    · rw [if_neg (by omega)]
      by_cases h4 : 4 < w.length
      · have hn : rgrp w = none := by unfold rgrp; rw [if_pos (Or.inr h4)]
        rw [decide_eq_true (show ((w.length : Nat) : Int) > 4 by omega), j1t, hn]
        rfl
      · have hg : rgrp w = rdig 0 w := by unfold rgrp; rw [if_neg (by omega)]
        rw [decide_eq_false (show ¬ ((w.length : Nat) : Int) > 4 by omega)]
        simp only [sallyportref03_groups.j1]
        rw [if_neg (by simp), hg]
        have hin := refGrp_in ws i w hw hlen (by omega) (p.1 : Int) (p.2 : Int) (8 * d + 2) (fun n => some (grRes ws.length (rgFrom (stepHL p n) (ws.drop (i + 1))))) (fun n k' hn hk' => by
          obtain ⟨b1, b2, b3, b4⟩ := step_bits p n h1 h2 hn
          rw [b1, b2]
          exact ih (i + 1) k' (stepHL p n) (by omega) hk' b3 b4) w.length 0 m 0 (by omega) (by simp) (by omega)
        rw [List.drop_zero] at hin
        have e0 : ((0 : Nat) : Int) = 0 := rfl
        rw [e0] at hin
        rw [hin]
        cases rdig 0 w with
        | none => rfl
        | some n => rfl
def rgL (s : List UInt8) : GR := if s = [] then (0, 0, 0, true) else grRes (cutAt 58 s).length (rgFrom (0, 0) (cutAt 58 s))
theorem cutAt_len (c : UInt8) : ∀ l : List UInt8, (cutAt c l).length ≤ l.length + 1
  | [] => by simp [cutAt]
  | b :: l => by
    have ih := cutAt_len c l
    rw [cutAt]
    split
    · simp; omega
    · cases hc : cutAt c l with
      | nil => simp
      | cons x r => rw [hc] at ih; simp at ih ⊢; omega
theorem refGroups_is (s : ByteArray) (hs : s.size ≤ 256) (k : Nat) (hk : 8 * 300 + 10 ≤ k) : sallyportref03_groups.f k s = some (rgL s.data.toList) := by
  have hz : s.data.toList.length = s.size := (Lib.size_eq s).symm
  unfold sallyportref03_groups.f rgL
  by_cases h : s.data.toList = []
  · rw [if_pos h, if_pos (by rw [Lib.toList_data]; exact h)]
  · rw [if_neg h, if_neg (by rw [Lib.toList_data]; exact h)]
    have hc := refCut_is s 58 (by omega) k (by omega)
    have e58 : ((58 : UInt8).toNat : Int) = 58 := rfl
    rw [e58] at hc
    rw [hc]
    simp only [Option.bind_some]
    have hl := cutAt_len 58 s.data.toList
    have := refGrp_from (cutAt 58 s.data.toList) (by omega) (cutAt 58 s.data.toList).length 0 k (0, 0) (by omega) (by omega) (by decide) (by decide)
    rw [List.drop_zero] at this
    exact this
end Go.Proofs.YtgbkeciimddpnaaGreatDoor.Print
