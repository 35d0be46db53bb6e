/-
Comparing, prefixes, what is in a range, and how many bits two addresses have alike: the program's and the reference's come to the same Lean functions.
Conditions: numbers of 64 bits.
-/
import Derived.Test.YtgbkeciimddpnaaGreatDoorAddrRq
import Derived.Laws.BitsAllLaws
import Derived.Lib.BitFns
import Derived.Lib.ItoaNum
import Derived.Test.YtgbkeciimddpnaaGreatDoorPrint7
import Derived.Test.YtgbkeciimddpnaaGreatDoorPrint5
import Derived.Test.YtgbkeciimddpnaaGreatDoorPrint6
namespace Go.Proofs.YtgbkeciimddpnaaGreatDoor.Ranges
open Go Go.RowKit Go.ChangeShapes Go.Proofs.YtgbkeciimddpnaaGreatDoorW.PrintWords Go.Proofs.YtgbkeciimddpnaaGreatDoorW.PrintLast Go.Proofs.YtgbkeciimddpnaaGreatDoor.Print

def top : Int := 18446744073709551615

/-- Two numbers, compared. -/
def cmp1 (a b : Int) : Int := if a < b then -1 else if b < a then 1 else 0
/-- Two addresses, compared. -/
def cmpA (a0 a1 b0 b1 : Int) : Int := if cmp1 a0 b0 = 0 then cmp1 a1 b1 else cmp1 a0 b0

theorem cmp1_cases (a b : Int) : (a < b ∧ cmp1 a b = -1) ∨ (a = b ∧ cmp1 a b = 0) ∨ (b < a ∧ cmp1 a b = 1) := by
  unfold cmp1
  rcases Int.lt_trichotomy a b with h | h | h
  · left; exact ⟨h, by rw [if_pos h]⟩
  · right; left; exact ⟨h, by rw [if_neg (by omega), if_neg (by omega)]⟩
  · right; right; exact ⟨h, by rw [if_neg (by omega), if_pos h]⟩

theorem cmpA_cases (a0 a1 b0 b1 : Int) : ((a0 < b0 ∨ a0 = b0 ∧ a1 < b1) ∧ cmpA a0 a1 b0 b1 = -1) ∨ (a0 = b0 ∧ a1 = b1 ∧ cmpA a0 a1 b0 b1 = 0) ∨ ((b0 < a0 ∨ a0 = b0 ∧ b1 < a1) ∧ cmpA a0 a1 b0 b1 = 1) := by
  unfold cmpA
  rcases cmp1_cases a0 b0 with ⟨h, e⟩ | ⟨h, e⟩ | ⟨h, e⟩ <;> rcases cmp1_cases a1 b1 with ⟨h', e'⟩ | ⟨h', e'⟩ | ⟨h', e'⟩ <;> rw [e, e'] <;> simp <;> omega

theorem isNaN_no (a : Int) : cmp_isNaN_uint64.f a = some false := by simp [cmp_isNaN_uint64.f]
theorem cmpU (a b : Int) : cmp_Compare_uint64.f a b = some (cmp1 a b) := by
  unfold cmp_Compare_uint64.f cmp1
  rw [isNaN_no, isNaN_no]
  simp only [Option.bind_some, gt_iff_lt]
  by_cases h : a < b
  · simp [h]
  · by_cases h' : b < a <;> simp [h, h']
theorem or_two (k : Nat) (x y : Int) : cmp_Or_int.f (k + 3) [x, y] = some (if x = 0 then y else x) := by
  simp only [cmp_Or_int.f, cmp_Or_int.l0]
  by_cases hx : x = 0 <;> by_cases hy : y = 0 <;> simp [rd, wrap64, hx, hy]
theorem compare_is (k : Nat) (a0 a1 b0 b1 : Int) : addr_Compare.f (k + 3) a0 a1 b0 b1 = some (cmpA a0 a1 b0 b1) := by
  simp only [addr_Compare.f, cmpU, Option.bind_some, or_two]
  rfl
theorem refCompare_is (k : Nat) (a0 a1 b0 b1 : Int) : sallyportref03_Compare.f (k + 1) a0 a1 b0 b1 = some (cmpA a0 a1 b0 b1) := by
  simp only [sallyportref03_Compare.f, sallyportref03_Compare.j0]
  rcases cmpA_cases a0 a1 b0 b1 with ⟨h, e⟩ | ⟨h, h2, e⟩ | ⟨h, e⟩ <;> rw [e]
  · by_cases h3 : a0 < b0
    · simp [h3]
    · have h4 : a0 = b0 := by omega
      have h5 : a1 < b1 := by omega
      simp [h4, h5]
  · subst h; subst h2; simp
  · by_cases h4 : a0 = b0
    · have h5 : ¬ a1 < b1 := by omega
      have h6 : ¬ a1 = b1 := by omega
      simp [h4, h5, h6]
    · have h3 : ¬ a0 < b0 := by omega
      simp [h3, h4]
theorem compare_calls (a0 a1 b0 b1 : Int) (w : World) : Calls Tryz.prog 20 #[.agg #[.int .u64 a0, .int .u64 a1], .agg #[.int .u64 b0, .int .u64 b1]] w fun e w' => e = .returned (.int .i64 (cmpA a0 a1 b0 b1)) ∧ Below w.heap.size w w' :=
  addr_Compare.calls 3 a0 a1 b0 b1 _ w (compare_is 0 a0 a1 b0 b1)
theorem refCompare_calls (a0 a1 b0 b1 : Int) (w : World) : Calls Tryz.prog 38 #[.agg #[.int .u64 a0, .int .u64 a1], .agg #[.int .u64 b0, .int .u64 b1]] w fun e w' => e = .returned (.int .i64 (cmpA a0 a1 b0 b1)) ∧ Below w.heap.size w w' :=
  sallyportref03_Compare.calls 1 a0 a1 b0 b1 _ w (refCompare_is 0 a0 a1 b0 b1)
theorem compare_val (a0 a1 b0 b1 x : Int) (h : Hid (cmpA a0 a1 b0 b1 = x)) (w : World) : Calls Tryz.prog 20 #[.agg #[.int .u64 a0, .int .u64 a1], .agg #[.int .u64 b0, .int .u64 b1]] w fun e w' => e = .returned (.int .i64 x) ∧ Below w.heap.size w w' := by
  have := compare_calls a0 a1 b0 b1 w
  rwa [h.out] at this
theorem refCompare_val (a0 a1 b0 b1 x : Int) (h : Hid (cmpA a0 a1 b0 b1 = x)) (w : World) : Calls Tryz.prog 38 #[.agg #[.int .u64 a0, .int .u64 a1], .agg #[.int .u64 b0, .int .u64 b1]] w fun e w' => e = .returned (.int .i64 x) ∧ Below w.heap.size w w' := by
  have := refCompare_calls a0 a1 b0 b1 w
  rwa [h.out] at this
/-- Is a number an IPv4 address? -/
def is4 (a0 a1 : Int) : Bool := a0 == 0 && decide (281470681743360 ≤ a1 ∧ a1 ≤ 281474976710655)
theorem is4_f (a0 a1 : Int) : addr_Is4.f a0 a1 = some (is4 a0 a1) := by
  unfold addr_Is4.f is4
  by_cases h : a0 = 0
  · subst h
    rw [if_pos rfl, show ((0 : Int) == 0) = true from rfl, Bool.true_and]
    congr 1
    by_cases h2 : 281470681743360 ≤ a1 ∧ a1 ≤ 281474976710655
    · rw [decide_eq_true h2, beq_iff_eq]; omega
    · rw [decide_eq_false h2, beq_eq_false_iff_ne]; omega
  · rw [if_neg h, beq_eq_false_iff_ne.mpr h, Bool.false_and]
theorem refIs4_f (a0 a1 : Int) : sallyportref03_Is4.f a0 a1 = some (is4 a0 a1) := by
  unfold sallyportref03_Is4.f is4
  by_cases h : a0 = 0
  · subst h
    by_cases h2 : a1 ≥ 281470681743360
    · rw [if_pos rfl, if_pos h2]
      simp [show 281470681743360 ≤ a1 from h2]
    · rw [if_pos rfl, if_neg h2]
      simp [show ¬ 281470681743360 ≤ a1 from h2]
  · simp [h]
theorem is4_calls (a0 a1 : Int) (w : World) : Calls Tryz.prog 13 #[.agg #[.int .u64 a0, .int .u64 a1]] w fun e w' => e = .returned (.bool (is4 a0 a1)) ∧ Below w.heap.size w w' :=
  addr_Is4.calls a0 a1 _ w (is4_f a0 a1)
theorem refIs4_calls (a0 a1 : Int) (w : World) : Calls Tryz.prog 15 #[.agg #[.int .u64 a0, .int .u64 a1]] w fun e w' => e = .returned (.bool (is4 a0 a1)) ∧ Below w.heap.size w w' :=
  sallyportref03_Is4.calls a0 a1 _ w (refIs4_f a0 a1)

def hiB (t : Nat) : Int := ((2 ^ (64 - min t 64) : Nat) : Int)
def loB (t : Nat) : Int := ((2 ^ (128 - max t 64) : Nat) : Int)
theorem masks_ref : ∀ t : Fin 129, sallyportref03_mask.f 130 ((t.val : Nat) : Int) = some (hiB t.val - 1, loB t.val - 1) := by decide +kernel
theorem masks_prog : ∀ t : Fin 129, addr_behind.f ((t.val : Nat) : Int) = some (hiB t.val - 1, loB t.val - 1) := by decide +kernel

theorem hiB_pos (t : Nat) : 1 ≤ hiB t ∧ hiB t ≤ 18446744073709551616 := by
  unfold hiB
  have h1 : 0 < 2 ^ (64 - min t 64) := Nat.two_pow_pos _
  have h2 : 2 ^ (64 - min t 64) ≤ 2 ^ 64 := Nat.pow_le_pow_right (by decide) (by omega)
  have h3 : (2 : Nat) ^ 64 = 18446744073709551616 := by decide
  omega
theorem loB_pos (t : Nat) : 1 ≤ loB t ∧ loB t ≤ 18446744073709551616 := by
  unfold loB
  have h1 : 0 < 2 ^ (128 - max t 64) := Nat.two_pow_pos _
  have h2 : 2 ^ (128 - max t 64) ≤ 2 ^ 64 := Nat.pow_le_pow_right (by decide) (by omega)
  have h3 : (2 : Nat) ^ 64 = 18446744073709551616 := by decide
  omega

theorem mask_and (x : Int) (i : Nat) (hi : i ≤ 64) (h0 : 0 ≤ x) (h1 : x ≤ 18446744073709551615) : Go.bits .and .u64 x (((2 ^ i : Nat) : Int) - 1) = x % ((2 ^ i : Nat) : Int) := by
  have e : ((2 ^ i : Nat) : Int) = 2 ^ i := by simp
  rw [e]
  have h3 : (2 : Int) ^ 64 = 18446744073709551616 := by decide
  exact bits_mask .u64 64 (by decide) (fun n k0 k1 => IntWalk.u64_in n (by omega)) i hi x h0 (by omega)
theorem mask_or (x : Int) (i : Nat) (hi : i ≤ 64) (h0 : 0 ≤ x) (h1 : x ≤ 18446744073709551615) (hm : x % ((2 ^ i : Nat) : Int) = 0) : Go.bits .or .u64 x (((2 ^ i : Nat) : Int) - 1) = x + (((2 ^ i : Nat) : Int) - 1) := by
  have e : ((2 ^ i : Nat) : Int) = 2 ^ i := by simp
  rw [e] at hm ⊢
  have h3 : (2 : Int) ^ 64 = 18446744073709551616 := by decide
  have h2 : 0 < 2 ^ i := Nat.two_pow_pos i
  have h4 : 2 ^ i ≤ 2 ^ 64 := Nat.pow_le_pow_right (by decide) hi
  have h5 : (2 : Nat) ^ 64 = 18446744073709551616 := by decide
  exact bits_join .u64 64 (by decide) (fun n k0 k1 => IntWalk.u64_in n (by omega)) i x _ h0 hm (by omega) (by omega) (by omega) (by omega)
theorem or_zero (x y : Int) (hx : 0 ≤ x) (hx' : x < 18446744073709551616) (hy : 0 ≤ y) (hy' : y < 18446744073709551616) : Go.bits .or .u64 x y = 0 ↔ x = 0 ∧ y = 0 := by
  rw [u64_or x y hx hx' hy hy']
  constructor
  · intro h
    have h' : x.toNat ||| y.toNat = 0 := by exact_mod_cast h
    have hx0 := Nat.left_le_or (n := x.toNat) (m := y.toNat)
    have hy0 := Nat.right_le_or (n := x.toNat) (m := y.toNat)
    omega
  · rintro ⟨rfl, rfl⟩
    rfl

/-- What Prefix comes to: two numbers, and the error. -/
def prefP (a0 a1 n : Int) : Int × Int × Int × Int × Int :=
  if n < 0 ∨ (if is4 a0 a1 = true then 32 else 128) < n then (0, 0, 0, 0, 31)
  else if a0 % hiB (n + 128 - (if is4 a0 a1 = true then 32 else 128)).toNat = 0 ∧ a1 % loB (n + 128 - (if is4 a0 a1 = true then 32 else 128)).toNat = 0 then
    (a0, a1, a0 + (hiB (n + 128 - (if is4 a0 a1 = true then 32 else 128)).toNat - 1), a1 + (loB (n + 128 - (if is4 a0 a1 = true then 32 else 128)).toNat - 1), 0)
  else (0, 0, 0, 0, 31)

theorem wrap_t (n most : Int) (h0 : 0 ≤ n) (h1 : n ≤ most) (hm : most = 32 ∨ most = 128) : wrap64 ((wrap64 (n + 128)) - most) = (((n + 128 - most).toNat : Nat) : Int) ∧ (n + 128 - most).toNat < 129 := by
  have e : wrap64 (n + 128) = n + 128 := by unfold wrap64; omega
  rw [e]
  unfold wrap64
  omega

theorem prefix_j1 (k : Nat) (n most a0 a1 : Int) (h0 : 0 ≤ n) (h1 : n ≤ most) (hm : most = 32 ∨ most = 128) (w0 : 0 ≤ a0 ∧ a0 ≤ 18446744073709551615) (w1 : 0 ≤ a1 ∧ a1 ≤ 18446744073709551615) :
    addr_Prefix.j1 (k + 1) n most false a0 a1 = some (if a0 % hiB (n + 128 - most).toNat = 0 ∧ a1 % loB (n + 128 - most).toNat = 0 then (a0, a1, a0 + (hiB (n + 128 - most).toNat - 1), a1 + (loB (n + 128 - most).toNat - 1), 0) else (0, 0, 0, 0, 31)) := by
  obtain ⟨e, hlt⟩ := wrap_t n most h0 h1 hm
  simp only [addr_Prefix.j1]
  rw [e, masks_prog ⟨_, hlt⟩]
  generalize (n + 128 - most).toNat = t at hlt ⊢
  simp only [Option.bind_some, Bool.false_eq_true, if_false]
  have A : Go.bits .and .u64 a0 (hiB t - 1) = a0 % hiB t := mask_and a0 _ (by omega) w0.1 w0.2
  have B : Go.bits .and .u64 a1 (loB t - 1) = a1 % loB t := mask_and a1 _ (by omega) w1.1 w1.2
  rw [A, B]
  have hp := hiB_pos t
  have lp := loB_pos t
  have m0 := Int.emod_nonneg a0 (show hiB t ≠ 0 by omega)
  have m1 := Int.emod_lt_of_pos a0 (show 0 < hiB t by omega)
  have m2 := Int.emod_nonneg a1 (show loB t ≠ 0 by omega)
  have m3 := Int.emod_lt_of_pos a1 (show 0 < loB t by omega)
  by_cases h : a0 % hiB t = 0 ∧ a1 % loB t = 0
  · rw [if_pos ((or_zero _ _ m0 (by omega) m2 (by omega)).mpr h), if_pos h]
    have C : Go.bits .or .u64 a0 (hiB t - 1) = a0 + (hiB t - 1) := mask_or a0 _ (by omega) w0.1 w0.2 h.1
    have D : Go.bits .or .u64 a1 (loB t - 1) = a1 + (loB t - 1) := mask_or a1 _ (by omega) w1.1 w1.2 h.2
    rw [C, D]
  · rw [if_neg (fun e => h ((or_zero _ _ m0 (by omega) m2 (by omega)).mp e)), if_neg h]
theorem refPrefix_j1 (n most a0 a1 : Int) (h0 : 0 ≤ n) (h1 : n ≤ most) (hm : most = 32 ∨ most = 128) (w0 : 0 ≤ a0 ∧ a0 ≤ 18446744073709551615) (w1 : 0 ≤ a1 ∧ a1 ≤ 18446744073709551615) :
    sallyportref03_Prefix.j1 131 n most false a0 a1 = some (if a0 % hiB (n + 128 - most).toNat = 0 ∧ a1 % loB (n + 128 - most).toNat = 0 then (a0, a1, a0 + (hiB (n + 128 - most).toNat - 1), a1 + (loB (n + 128 - most).toNat - 1), 0) else (0, 0, 0, 0, 31)) := by
  obtain ⟨e, hlt⟩ := wrap_t n most h0 h1 hm
  rw [show (131 : Nat) = 130 + 1 from rfl]
  unfold sallyportref03_Prefix.j1
  simp only []
  rw [e, masks_ref ⟨_, hlt⟩]
  generalize (n + 128 - most).toNat = t at hlt ⊢
  simp only [Option.bind_some, Bool.false_eq_true, if_false]
  have A : Go.bits .and .u64 a0 (hiB t - 1) = a0 % hiB t := mask_and a0 _ (by omega) w0.1 w0.2
  have B : Go.bits .and .u64 a1 (loB t - 1) = a1 % loB t := mask_and a1 _ (by omega) w1.1 w1.2
  rw [A, B]
  by_cases h : a0 % hiB t = 0
  · by_cases h' : a1 % loB t = 0
    · rw [if_pos h, if_pos h', if_pos ⟨h, h'⟩]
      have C : Go.bits .or .u64 a0 (hiB t - 1) = a0 + (hiB t - 1) := mask_or a0 _ (by omega) w0.1 w0.2 h
      have D : Go.bits .or .u64 a1 (loB t - 1) = a1 + (loB t - 1) := mask_or a1 _ (by omega) w1.1 w1.2 h'
      rw [C, D]
    · rw [if_pos h, if_neg h', if_neg (fun e => h' e.2)]
  · rw [if_neg h, if_neg (fun e => h e.1)]

theorem prefix_j0 (k : Nat) (n most a0 a1 : Int) (hm : most = 32 ∨ most = 128) (w0 : 0 ≤ a0 ∧ a0 ≤ 18446744073709551615) (w1 : 0 ≤ a1 ∧ a1 ≤ 18446744073709551615) :
    addr_Prefix.j0 (k + 2) n most a0 a1 = some (if n < 0 ∨ most < n then (0, 0, 0, 0, 31) else if a0 % hiB (n + 128 - most).toNat = 0 ∧ a1 % loB (n + 128 - most).toNat = 0 then (a0, a1, a0 + (hiB (n + 128 - most).toNat - 1), a1 + (loB (n + 128 - most).toNat - 1), 0) else (0, 0, 0, 0, 31)) := by
  simp only [addr_Prefix.j0]
  by_cases h0 : n < 0
  · rw [if_pos h0, if_pos (Or.inl h0)]
    simp only [addr_Prefix.j1, if_true]
  · by_cases h1 : most < n
    · rw [if_neg h0, if_pos (Or.inr h1), decide_eq_true (show n > most from h1)]
      simp only [addr_Prefix.j1, if_true]
    · rw [if_neg h0, if_neg (by omega), decide_eq_false (show ¬ n > most from h1)]
      exact prefix_j1 k n most a0 a1 (by omega) (by omega) hm w0 w1
theorem refPrefix_j0 (n most a0 a1 : Int) (hm : most = 32 ∨ most = 128) (w0 : 0 ≤ a0 ∧ a0 ≤ 18446744073709551615) (w1 : 0 ≤ a1 ∧ a1 ≤ 18446744073709551615) :
    sallyportref03_Prefix.j0 132 n most a0 a1 = some (if n < 0 ∨ most < n then (0, 0, 0, 0, 31) else if a0 % hiB (n + 128 - most).toNat = 0 ∧ a1 % loB (n + 128 - most).toNat = 0 then (a0, a1, a0 + (hiB (n + 128 - most).toNat - 1), a1 + (loB (n + 128 - most).toNat - 1), 0) else (0, 0, 0, 0, 31)) := by
  rw [show (132 : Nat) = 131 + 1 from rfl]
  unfold sallyportref03_Prefix.j0
  simp only []
  by_cases h0 : n < 0
  · rw [if_pos h0, if_pos (Or.inl h0), show (131 : Nat) = 130 + 1 from rfl]
    unfold sallyportref03_Prefix.j1
    simp only [if_true]
  · by_cases h1 : most < n
    · rw [if_neg h0, if_pos (Or.inr h1), decide_eq_true (show n > most from h1), show (131 : Nat) = 130 + 1 from rfl]
      unfold sallyportref03_Prefix.j1
      simp only [if_true]
    · rw [if_neg h0, if_neg (by omega), decide_eq_false (show ¬ n > most from h1)]
      exact refPrefix_j1 n most a0 a1 (by omega) (by omega) hm w0 w1
theorem prefix_is (k : Nat) (a0 a1 n : Int) (w0 : 0 ≤ a0 ∧ a0 ≤ 18446744073709551615) (w1 : 0 ≤ a1 ∧ a1 ≤ 18446744073709551615) : addr_Prefix.f (k + 2) a0 a1 n = some (prefP a0 a1 n) := by
  unfold addr_Prefix.f prefP
  rw [is4_f]
  simp only [Option.bind_some]
  cases is4 a0 a1
  · simp only [Bool.false_eq_true, if_false]
    exact prefix_j0 k n 128 a0 a1 (Or.inr rfl) w0 w1
  · simp only [if_true]
    exact prefix_j0 k n 32 a0 a1 (Or.inl rfl) w0 w1
theorem refPrefix_is (a0 a1 n : Int) (w0 : 0 ≤ a0 ∧ a0 ≤ 18446744073709551615) (w1 : 0 ≤ a1 ∧ a1 ≤ 18446744073709551615) : sallyportref03_Prefix.f 132 a0 a1 n = some (prefP a0 a1 n) := by
  unfold sallyportref03_Prefix.f prefP
  rw [refIs4_f]
  simp only [Option.bind_some]
  cases is4 a0 a1
  · simp only [Bool.false_eq_true, if_false]
    exact refPrefix_j0 n 128 a0 a1 (Or.inr rfl) w0 w1
  · simp only [if_true]
    exact refPrefix_j0 n 32 a0 a1 (Or.inl rfl) w0 w1

theorem prefix_val (a0 a1 n x0 x1 x2 x3 x4 : Int) (w0 : 0 ≤ a0 ∧ a0 ≤ top) (w1 : 0 ≤ a1 ∧ a1 ≤ top) (h : Hid (prefP a0 a1 n = (x0, x1, x2, x3, x4))) (w : World) :
    Calls Tryz.prog 5 #[.agg #[.int .u64 a0, .int .u64 a1], .int .i64 n] w fun e w' => e = .returned (.tuple #[.agg #[.int .u64 x0, .int .u64 x1, .int .u64 x2, .int .u64 x3], .int .i64 x4]) ∧ Below w.heap.size w w' :=
  addr_Prefix.calls 2 a0 a1 n _ _ _ _ _ w (by rw [prefix_is 0 a0 a1 n w0 w1, h.out])
theorem refPrefix_val (a0 a1 n x0 x1 x2 x3 x4 : Int) (w0 : 0 ≤ a0 ∧ a0 ≤ top) (w1 : 0 ≤ a1 ∧ a1 ≤ top) (h : Hid (prefP a0 a1 n = (x0, x1, x2, x3, x4))) (w : World) :
    Calls Tryz.prog 6 #[.agg #[.int .u64 a0, .int .u64 a1], .int .i64 n] w fun e w' => e = .returned (.tuple #[.agg #[.int .u64 x0, .int .u64 x1, .int .u64 x2, .int .u64 x3], .int .i64 x4]) ∧ Below w.heap.size w w' :=
  sallyportref03_Prefix.calls 132 a0 a1 n _ _ _ _ _ w (by rw [refPrefix_is a0 a1 n w0 w1, h.out])

/-- Has: the number is in the range. -/
def hasR (f0 f1 t0 t1 x0 x1 : Int) : Bool := decide (cmpA f0 f1 x0 x1 ≤ 0) && decide (cmpA x0 x1 t0 t1 ≤ 0)
theorem has_is (k : Nat) (f0 f1 t0 t1 x0 x1 : Int) : addr_Has.f (k + 3) f0 f1 t0 t1 x0 x1 = some (hasR f0 f1 t0 t1 x0 x1) := by
  unfold addr_Has.f hasR
  rw [compare_is]
  simp only [Option.bind_some]
  by_cases h : cmpA f0 f1 x0 x1 ≤ 0
  · rw [if_pos h, compare_is]
    simp [h]
  · rw [if_neg h]
    simp [h]
theorem has_val (f0 f1 t0 t1 x0 x1 : Int) (b : Bool) (h : Hid (hasR f0 f1 t0 t1 x0 x1 = b)) (w : World) :
    Calls Tryz.prog 11 #[.agg #[.int .u64 f0, .int .u64 f1, .int .u64 t0, .int .u64 t1], .agg #[.int .u64 x0, .int .u64 x1]] w fun e w' => e = .returned (.bool b) ∧ Below w.heap.size w w' :=
  addr_Has.calls 3 f0 f1 t0 t1 x0 x1 _ w (by rw [has_is 0, h.out])
theorem refAtMost_is (a0 a1 b0 b1 : Int) : sallyportref03_AtMost.f 1 a0 a1 b0 b1 = some (decide (cmpA a0 a1 b0 b1 ≤ 0)) := by
  unfold sallyportref03_AtMost.f
  rw [refCompare_is 0]
  rfl
theorem refHas_val (f0 f1 t0 t1 x0 x1 : Int) (b : Bool) (h : Hid (hasR f0 f1 t0 t1 x0 x1 = b)) (w : World) :
    Calls Tryz.prog 12 #[.agg #[.int .u64 f0, .int .u64 f1, .int .u64 t0, .int .u64 t1], .agg #[.int .u64 x0, .int .u64 x1]] w fun e w' => e = .returned (.bool b) ∧ Below w.heap.size w w' := by
  refine sallyportref03_Has.calls 1 f0 f1 t0 t1 x0 x1 _ w ?_
  unfold sallyportref03_Has.f
  rw [refAtMost_is, refAtMost_is, ← h.out]
  unfold hasR
  by_cases h1 : cmpA f0 f1 x0 x1 ≤ 0 <;> simp [h1]
theorem refLess_val (a0 a1 b0 b1 : Int) (b : Bool) (h : Hid (decide (cmpA a0 a1 b0 b1 < 0) = b)) (w : World) :
    Calls Tryz.prog 24 #[.agg #[.int .u64 a0, .int .u64 a1], .agg #[.int .u64 b0, .int .u64 b1]] w fun e w' => e = .returned (.bool b) ∧ Below w.heap.size w w' := by
  refine sallyportref03_Less.calls 1 a0 a1 b0 b1 _ w ?_
  unfold sallyportref03_Less.f
  rw [refCompare_is 0, ← h.out]
  rfl
theorem xor_mask (a k : Nat) (hm : a % 2 ^ k = 0) : a ^^^ (a + (2 ^ k - 1)) = 2 ^ k - 1 := by
  obtain ⟨q, rfl⟩ := Nat.dvd_of_mod_eq_zero hm
  have hlt : 2 ^ k - 1 < 2 ^ k := by have := Nat.two_pow_pos k; omega
  rw [Nat.two_pow_add_eq_or_of_lt hlt]
  apply Nat.eq_of_testBit_eq
  intro i
  rw [Nat.testBit_xor, Nat.testBit_or, Nat.testBit_two_pow_mul, Nat.testBit_two_pow_sub_one]
  by_cases h : i < k
  · simp [h]
  · simp [h]
theorem bitLen_mask : ∀ k : Fin 65, Lib.bitLen (2 ^ k.val - 1) = k.val := by decide +kernel
theorem pow_le (k : Nat) (h : k ≤ 64) : 1 ≤ 2 ^ k ∧ 2 ^ k ≤ 18446744073709551616 := by
  have h1 := Nat.two_pow_pos k
  have h2 : 2 ^ k ≤ 2 ^ 64 := Nat.pow_le_pow_right (by decide) h
  have h3 : (2 : Nat) ^ 64 = 18446744073709551616 := by decide
  omega
theorem aligned_lt (a k : Nat) (hk : k ≤ 64) (ha : a < 18446744073709551616) (hm : a % 2 ^ k = 0) : a + (2 ^ k - 1) < 18446744073709551616 := by
  obtain ⟨h1, h2⟩ := pow_le k hk
  obtain ⟨q, rfl⟩ := Nat.dvd_of_mod_eq_zero hm
  have e : (18446744073709551616 : Nat) = 2 ^ k * 2 ^ (64 - k) := by rw [← Nat.pow_add, show k + (64 - k) = 64 by omega]
  rw [e] at ha ⊢
  have hq : q < 2 ^ (64 - k) := Nat.lt_of_mul_lt_mul_left ha
  have h5 : 2 ^ k * (q + 1) ≤ 2 ^ k * 2 ^ (64 - k) := Nat.mul_le_mul_left _ hq
  rw [Nat.mul_add] at h5
  omega
/-- How many bits ahead are alike. -/
def lz (x y : Int) : Int := 64 - (Lib.bitLen (Go.bits .xor .u64 x y).toNat : Int)
theorem lz_mask (a : Int) (k : Nat) (hk : k ≤ 64) (h0 : 0 ≤ a) (h1 : a ≤ 18446744073709551615) (hm : a % ((2 ^ k : Nat) : Int) = 0) : lz a (a + (((2 ^ k : Nat) : Int) - 1)) = 64 - (k : Int) := by
  obtain ⟨n, rfl⟩ := Int.eq_ofNat_of_zero_le h0
  have hn : n % 2 ^ k = 0 := by exact_mod_cast hm
  obtain ⟨p1, p2⟩ := pow_le k hk
  have hlt := aligned_lt n k hk (by omega) hn
  have e : (n : Int) + (((2 ^ k : Nat) : Int) - 1) = ((n + (2 ^ k - 1) : Nat) : Int) := by omega
  unfold lz
  rw [e, u64_xor_nat n _ (by omega) hlt, xor_mask n k hn, Int.toNat_natCast, bitLen_mask ⟨k, by omega⟩]
theorem prefP_cases (a0 a1 n : Int) : prefP a0 a1 n = (0, 0, 0, 0, 31) ∨
    (0 ≤ n ∧ n ≤ (if is4 a0 a1 = true then 32 else 128) ∧ a0 % hiB (n + 128 - (if is4 a0 a1 = true then 32 else 128)).toNat = 0 ∧ a1 % loB (n + 128 - (if is4 a0 a1 = true then 32 else 128)).toNat = 0 ∧
      prefP a0 a1 n = (a0, a1, a0 + (hiB (n + 128 - (if is4 a0 a1 = true then 32 else 128)).toNat - 1), a1 + (loB (n + 128 - (if is4 a0 a1 = true then 32 else 128)).toNat - 1), 0)) := by
  unfold prefP
  by_cases h : n < 0 ∨ (if is4 a0 a1 = true then 32 else 128) < n
  · left; rw [if_pos h]
  · by_cases h2 : a0 % hiB (n + 128 - (if is4 a0 a1 = true then 32 else 128)).toNat = 0 ∧ a1 % loB (n + 128 - (if is4 a0 a1 = true then 32 else 128)).toNat = 0
    · right
      refine ⟨by omega, by omega, h2.1, h2.2, ?_⟩
      rw [if_neg h, if_pos h2]
    · left; rw [if_neg h, if_neg h2]
/-- The bits that two numbers have alike, as PrintRange counts them. -/
def sameP (a0 a1 t0 t1 : Int) : Int := (if lz a0 t0 = 64 then lz a0 t0 + lz a1 t1 else lz a0 t0) - (if is4 a0 a1 = true then 96 else 0)
theorem same_at (T : Nat) (hT : T ≤ 128) (a0 a1 : Int) (w0 : 0 ≤ a0 ∧ a0 ≤ 18446744073709551615) (w1 : 0 ≤ a1 ∧ a1 ≤ 18446744073709551615) (g0 : a0 % hiB T = 0) (g1 : a1 % loB T = 0) :
    (if lz a0 (a0 + (hiB T - 1)) = 64 then lz a0 (a0 + (hiB T - 1)) + lz a1 (a1 + (loB T - 1)) else lz a0 (a0 + (hiB T - 1))) = (T : Int) := by
  have l0 : lz a0 (a0 + (hiB T - 1)) = 64 - ((64 - min T 64 : Nat) : Int) := lz_mask a0 (64 - min T 64) (by omega) w0.1 w0.2 g0
  have l1 : lz a1 (a1 + (loB T - 1)) = 64 - ((128 - max T 64 : Nat) : Int) := lz_mask a1 (128 - max T 64) (by omega) w1.1 w1.2 g1
  rw [l0, l1]
  by_cases c : T < 64
  · rw [if_neg (by omega)]
    omega
  · rw [if_pos (by omega)]
    omega
theorem same_is (a0 a1 t0 t1 n : Int) (w0 : 0 ≤ a0 ∧ a0 ≤ 18446744073709551615) (w1 : 0 ≤ a1 ∧ a1 ≤ 18446744073709551615) (h : prefP a0 a1 n = (a0, a1, t0, t1, 0)) : sameP a0 a1 t0 t1 = n := by
  rcases prefP_cases a0 a1 n with e | ⟨n0, n1, g0, g1, e⟩
  · rw [e] at h
    have := congrArg (fun x : Int × Int × Int × Int × Int => x.2.2.2.2) h
    simp at this
  · rw [e] at h
    have e0 : a0 + (hiB (n + 128 - (if is4 a0 a1 = true then 32 else 128)).toNat - 1) = t0 := congrArg (fun x : Int × Int × Int × Int × Int => x.2.2.1) h
    have e1 : a1 + (loB (n + 128 - (if is4 a0 a1 = true then 32 else 128)).toNat - 1) = t1 := congrArg (fun x : Int × Int × Int × Int × Int => x.2.2.2.1) h
    have hT : (n + 128 - (if is4 a0 a1 = true then 32 else 128)).toNat ≤ 128 := by omega
    have m := same_at _ hT a0 a1 w0 w1 g0 g1
    rw [e0, e1] at m
    unfold sameP
    rw [m]
    cases is4 a0 a1 <;> simp at n0 n1 ⊢ <;> omega
end Go.Proofs.YtgbkeciimddpnaaGreatDoor.Ranges
