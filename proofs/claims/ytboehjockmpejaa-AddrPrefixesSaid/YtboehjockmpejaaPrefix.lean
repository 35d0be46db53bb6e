/-
Prefix of the program and of the reference: both come to one Lean function.
Conditions: numbers of 64 bits.
-/
import Derived.Test.YtboehjockmpejaaNumbers
import Derived.Laws.BitsAllLaws
import Derived.Test.YtboehjockmpejaaPrint3
import Derived.Test.YtboehjockmpejaaPrint2
namespace Go.Proofs.Ytboehjockmpejaa.Print
open Go.RowKit Go.ChangeShapes Go.Proofs.YtboehjockmpejaaW.PrintWords

def hiB (t : Nat) : Int := ((2 ^ (64 - min t 64) : Nat) : Int)
def loB (t : Nat) : Int := ((2 ^ (128 - max t 64) : Nat) : Int)
theorem masks_ref : ∀ t : Fin 129, sallyportref03_mask.f 130 ((t.val : Nat) : Int) = some (hiB t.val - 1, loB t.val - 1) := by decide +kernel
theorem masks_prog : ∀ t : Fin 129, addr_behind.f ((t.val : Nat) : Int) = some (hiB t.val - 1, loB t.val - 1) := by decide +kernel

theorem hiB_pos (t : Nat) : 1 ≤ hiB t ∧ hiB t ≤ 18446744073709551616 := by
  unfold hiB
  have h1 : 0 < 2 ^ (64 - min t 64) := Nat.two_pow_pos _
  have h2 : 2 ^ (64 - min t 64) ≤ 2 ^ 64 := Nat.pow_le_pow_right (by decide) (by omega)
  have h3 : (2 : Nat) ^ 64 = 18446744073709551616 := by decide
  omega
theorem loB_pos (t : Nat) : 1 ≤ loB t ∧ loB t ≤ 18446744073709551616 := by
  unfold loB
  have h1 : 0 < 2 ^ (128 - max t 64) := Nat.two_pow_pos _
  have h2 : 2 ^ (128 - max t 64) ≤ 2 ^ 64 := Nat.pow_le_pow_right (by decide) (by omega)
  have h3 : (2 : Nat) ^ 64 = 18446744073709551616 := by decide
  omega

theorem mask_and (x : Int) (i : Nat) (hi : i ≤ 64) (h0 : 0 ≤ x) (h1 : x ≤ 18446744073709551615) : Go.bits .and .u64 x (((2 ^ i : Nat) : Int) - 1) = x % ((2 ^ i : Nat) : Int) := by
  have e : ((2 ^ i : Nat) : Int) = 2 ^ i := by simp
  rw [e]
  have h3 : (2 : Int) ^ 64 = 18446744073709551616 := by decide
  exact bits_mask .u64 64 (by decide) (fun n k0 k1 => IntWalk.u64_in n (by omega)) i hi x h0 (by omega)
theorem mask_or (x : Int) (i : Nat) (hi : i ≤ 64) (h0 : 0 ≤ x) (h1 : x ≤ 18446744073709551615) (hm : x % ((2 ^ i : Nat) : Int) = 0) : Go.bits .or .u64 x (((2 ^ i : Nat) : Int) - 1) = x + (((2 ^ i : Nat) : Int) - 1) := by
  have e : ((2 ^ i : Nat) : Int) = 2 ^ i := by simp
  rw [e] at hm ⊢
  have h3 : (2 : Int) ^ 64 = 18446744073709551616 := by decide
  have h2 : 0 < 2 ^ i := Nat.two_pow_pos i
  have h4 : 2 ^ i ≤ 2 ^ 64 := Nat.pow_le_pow_right (by decide) hi
  have h5 : (2 : Nat) ^ 64 = 18446744073709551616 := by decide
  exact bits_join .u64 64 (by decide) (fun n k0 k1 => IntWalk.u64_in n (by omega)) i x _ h0 hm (by omega) (by omega) (by omega) (by omega)
theorem or_zero (x y : Int) (hx : 0 ≤ x) (hx' : x < 18446744073709551616) (hy : 0 ≤ y) (hy' : y < 18446744073709551616) : Go.bits .or .u64 x y = 0 ↔ x = 0 ∧ y = 0 := by
  rw [u64_or x y hx hx' hy hy']
  constructor
  · intro h
    have h' : x.toNat ||| y.toNat = 0 := by exact_mod_cast h
    have hx0 := Nat.left_le_or (n := x.toNat) (m := y.toNat)
    have hy0 := Nat.right_le_or (n := x.toNat) (m := y.toNat)
    omega
  · rintro ⟨rfl, rfl⟩
    rfl

/-- What Prefix comes to: two numbers, and the error. -/
def prefP (a0 a1 n : Int) : Int × Int × Int × Int × Int :=
  if n < 0 ∨ (if is4 a0 a1 = true then 32 else 128) < n then (0, 0, 0, 0, 31)
  else if a0 % hiB (n + 128 - (if is4 a0 a1 = true then 32 else 128)).toNat = 0 ∧ a1 % loB (n + 128 - (if is4 a0 a1 = true then 32 else 128)).toNat = 0 then
    (a0, a1, a0 + (hiB (n + 128 - (if is4 a0 a1 = true then 32 else 128)).toNat - 1), a1 + (loB (n + 128 - (if is4 a0 a1 = true then 32 else 128)).toNat - 1), 0)
  else (0, 0, 0, 0, 31)

theorem wrap_t (n most : Int) (h0 : 0 ≤ n) (h1 : n ≤ most) (hm : most = 32 ∨ most = 128) : wrap64 ((wrap64 (n + 128)) - most) = (((n + 128 - most).toNat : Nat) : Int) ∧ (n + 128 - most).toNat < 129 := by
  have e : wrap64 (n + 128) = n + 128 := by unfold wrap64; omega
  rw [e]
  unfold wrap64
  omega

theorem prefix_j1 (k : Nat) (n most a0 a1 : Int) (h0 : 0 ≤ n) (h1 : n ≤ most) (hm : most = 32 ∨ most = 128) (w0 : 0 ≤ a0 ∧ a0 ≤ 18446744073709551615) (w1 : 0 ≤ a1 ∧ a1 ≤ 18446744073709551615) :
    addr_Prefix.j1 (k + 1) n most false a0 a1 = some (if a0 % hiB (n + 128 - most).toNat = 0 ∧ a1 % loB (n + 128 - most).toNat = 0 then (a0, a1, a0 + (hiB (n + 128 - most).toNat - 1), a1 + (loB (n + 128 - most).toNat - 1), 0) else (0, 0, 0, 0, 31)) := by
  obtain ⟨e, hlt⟩ := wrap_t n most h0 h1 hm
  simp only [addr_Prefix.j1]
  rw [e, masks_prog ⟨_, hlt⟩]
  generalize (n + 128 - most).toNat = t at hlt ⊢
  simp only [Option.bind_some, Bool.false_eq_true, if_false]
  have A : Go.bits .and .u64 a0 (hiB t - 1) = a0 % hiB t := mask_and a0 _ (by omega) w0.1 w0.2
  have B : Go.bits .and .u64 a1 (loB t - 1) = a1 % loB t := mask_and a1 _ (by omega) w1.1 w1.2
  rw [A, B]
  have hp := hiB_pos t
  have lp := loB_pos t
  have m0 := Int.emod_nonneg a0 (show hiB t ≠ 0 by omega)
  have m1 := Int.emod_lt_of_pos a0 (show 0 < hiB t by omega)
  have m2 := Int.emod_nonneg a1 (show loB t ≠ 0 by omega)
  have m3 := Int.emod_lt_of_pos a1 (show 0 < loB t by omega)
  by_cases h : a0 % hiB t = 0 ∧ a1 % loB t = 0
  · rw [if_pos ((or_zero _ _ m0 (by omega) m2 (by omega)).mpr h), if_pos h]
    have C : Go.bits .or .u64 a0 (hiB t - 1) = a0 + (hiB t - 1) := mask_or a0 _ (by omega) w0.1 w0.2 h.1
    have D : Go.bits .or .u64 a1 (loB t - 1) = a1 + (loB t - 1) := mask_or a1 _ (by omega) w1.1 w1.2 h.2
    rw [C, D]
  · rw [if_neg (fun e => h ((or_zero _ _ m0 (by omega) m2 (by omega)).mp e)), if_neg h]
theorem refPrefix_j1 (n most a0 a1 : Int) (h0 : 0 ≤ n) (h1 : n ≤ most) (hm : most = 32 ∨ most = 128) (w0 : 0 ≤ a0 ∧ a0 ≤ 18446744073709551615) (w1 : 0 ≤ a1 ∧ a1 ≤ 18446744073709551615) :
    sallyportref03_Prefix.j1 131 n most false a0 a1 = some (if a0 % hiB (n + 128 - most).toNat = 0 ∧ a1 % loB (n + 128 - most).toNat = 0 then (a0, a1, a0 + (hiB (n + 128 - most).toNat - 1), a1 + (loB (n + 128 - most).toNat - 1), 0) else (0, 0, 0, 0, 31)) := by
  obtain ⟨e, hlt⟩ := wrap_t n most h0 h1 hm
  rw [show (131 : Nat) = 130 + 1 from rfl]
  unfold sallyportref03_Prefix.j1
  simp only []
  rw [e, masks_ref ⟨_, hlt⟩]
  generalize (n + 128 - most).toNat = t at hlt ⊢
  simp only [Option.bind_some, Bool.false_eq_true, if_false]
  have A : Go.bits .and .u64 a0 (hiB t - 1) = a0 % hiB t := mask_and a0 _ (by omega) w0.1 w0.2
  have B : Go.bits .and .u64 a1 (loB t - 1) = a1 % loB t := mask_and a1 _ (by omega) w1.1 w1.2
  rw [A, B]
  by_cases h : a0 % hiB t = 0
  · by_cases h' : a1 % loB t = 0
    · rw [if_pos h, if_pos h', if_pos ⟨h, h'⟩]
      have C : Go.bits .or .u64 a0 (hiB t - 1) = a0 + (hiB t - 1) := mask_or a0 _ (by omega) w0.1 w0.2 h
      have D : Go.bits .or .u64 a1 (loB t - 1) = a1 + (loB t - 1) := mask_or a1 _ (by omega) w1.1 w1.2 h'
      rw [C, D]
    · rw [if_pos h, if_neg h', if_neg (fun e => h' e.2)]
  · rw [if_neg h, if_neg (fun e => h e.1)]

theorem prefix_j0 (k : Nat) (n most a0 a1 : Int) (hm : most = 32 ∨ most = 128) (w0 : 0 ≤ a0 ∧ a0 ≤ 18446744073709551615) (w1 : 0 ≤ a1 ∧ a1 ≤ 18446744073709551615) :
    addr_Prefix.j0 (k + 2) n most a0 a1 = some (if n < 0 ∨ most < n then (0, 0, 0, 0, 31) else if a0 % hiB (n + 128 - most).toNat = 0 ∧ a1 % loB (n + 128 - most).toNat = 0 then (a0, a1, a0 + (hiB (n + 128 - most).toNat - 1), a1 + (loB (n + 128 - most).toNat - 1), 0) else (0, 0, 0, 0, 31)) := by
  simp only [addr_Prefix.j0]
  by_cases h0 : n < 0
  · rw [if_pos h0, if_pos (Or.inl h0)]
    simp only [addr_Prefix.j1, if_true]
  · by_cases h1 : most < n
    · rw [if_neg h0, if_pos (Or.inr h1), decide_eq_true (show n > most from h1)]
      simp only [addr_Prefix.j1, if_true]
    · rw [if_neg h0, if_neg (by omega), decide_eq_false (show ¬ n > most from h1)]
      exact prefix_j1 k n most a0 a1 (by omega) (by omega) hm w0 w1
theorem refPrefix_j0 (n most a0 a1 : Int) (hm : most = 32 ∨ most = 128) (w0 : 0 ≤ a0 ∧ a0 ≤ 18446744073709551615) (w1 : 0 ≤ a1 ∧ a1 ≤ 18446744073709551615) :
    sallyportref03_Prefix.j0 132 n most a0 a1 = some (if n < 0 ∨ most < n then (0, 0, 0, 0, 31) else if a0 % hiB (n + 128 - most).toNat = 0 ∧ a1 % loB (n + 128 - most).toNat = 0 then (a0, a1, a0 + (hiB (n + 128 - most).toNat - 1), a1 + (loB (n + 128 - most).toNat - 1), 0) else (0, 0, 0, 0, 31)) := by
  rw [show (132 : Nat) = 131 + 1 from rfl]
  unfold sallyportref03_Prefix.j0
  simp only []
  by_cases h0 : n < 0
  · rw [if_pos h0, if_pos (Or.inl h0), show (131 : Nat) = 130 + 1 from rfl]
    unfold sallyportref03_Prefix.j1
    simp only [if_true]
  · by_cases h1 : most < n
    · rw [if_neg h0, if_pos (Or.inr h1), decide_eq_true (show n > most from h1), show (131 : Nat) = 130 + 1 from rfl]
      unfold sallyportref03_Prefix.j1
      simp only [if_true]
    · rw [if_neg h0, if_neg (by omega), decide_eq_false (show ¬ n > most from h1)]
      exact refPrefix_j1 n most a0 a1 (by omega) (by omega) hm w0 w1
theorem prefix_is (k : Nat) (a0 a1 n : Int) (w0 : 0 ≤ a0 ∧ a0 ≤ 18446744073709551615) (w1 : 0 ≤ a1 ∧ a1 ≤ 18446744073709551615) : addr_Prefix.f (k + 2) a0 a1 n = some (prefP a0 a1 n) := by
  unfold addr_Prefix.f prefP
  rw [is4_f]
  simp only [Option.bind_some]
  cases is4 a0 a1
  · simp only [Bool.false_eq_true, if_false]
    exact prefix_j0 k n 128 a0 a1 (Or.inr rfl) w0 w1
  · simp only [if_true]
    exact prefix_j0 k n 32 a0 a1 (Or.inl rfl) w0 w1
theorem refPrefix_is (a0 a1 n : Int) (w0 : 0 ≤ a0 ∧ a0 ≤ 18446744073709551615) (w1 : 0 ≤ a1 ∧ a1 ≤ 18446744073709551615) : sallyportref03_Prefix.f 132 a0 a1 n = some (prefP a0 a1 n) := by
  unfold sallyportref03_Prefix.f prefP
  rw [refIs4_f]
  simp only [Option.bind_some]
  cases is4 a0 a1
  · simp only [Bool.false_eq_true, if_false]
    exact refPrefix_j0 n 128 a0 a1 (Or.inr rfl) w0 w1
  · simp only [if_true]
    exact refPrefix_j0 n 32 a0 a1 (Or.inl rfl) w0 w1

theorem prefix_val (a0 a1 n x0 x1 x2 x3 x4 : Int) (w0 : 0 ≤ a0 ∧ a0 ≤ top) (w1 : 0 ≤ a1 ∧ a1 ≤ top) (h : Hid (prefP a0 a1 n = (x0, x1, x2, x3, x4))) (w : World) :
    Calls Try.prog 9 #[.agg #[.int .u64 a0, .int .u64 a1], .int .i64 n] w fun e w' => e = .returned (.tuple #[.agg #[.int .u64 x0, .int .u64 x1, .int .u64 x2, .int .u64 x3], .int .i64 x4]) ∧ Below w.heap.size w w' :=
  addr_Prefix.calls 2 a0 a1 n _ _ _ _ _ w (by rw [prefix_is 0 a0 a1 n w0 w1, h.out])
theorem refPrefix_val (a0 a1 n x0 x1 x2 x3 x4 : Int) (w0 : 0 ≤ a0 ∧ a0 ≤ top) (w1 : 0 ≤ a1 ∧ a1 ≤ top) (h : Hid (prefP a0 a1 n = (x0, x1, x2, x3, x4))) (w : World) :
    Calls Try.prog 10 #[.agg #[.int .u64 a0, .int .u64 a1], .int .i64 n] w fun e w' => e = .returned (.tuple #[.agg #[.int .u64 x0, .int .u64 x1, .int .u64 x2, .int .u64 x3], .int .i64 x4]) ∧ Below w.heap.size w w' :=
  sallyportref03_Prefix.calls 132 a0 a1 n _ _ _ _ _ w (by rw [refPrefix_is a0 a1 n w0 w1, h.out])

/-- Has: the number is in the range. -/
def hasR (f0 f1 t0 t1 x0 x1 : Int) : Bool := decide (cmpA f0 f1 x0 x1 ≤ 0) && decide (cmpA x0 x1 t0 t1 ≤ 0)
theorem has_is (k : Nat) (f0 f1 t0 t1 x0 x1 : Int) : addr_Has.f (k + 3) f0 f1 t0 t1 x0 x1 = some (hasR f0 f1 t0 t1 x0 x1) := by
  unfold addr_Has.f hasR
  rw [compare_is]
  simp only [Option.bind_some]
  by_cases h : cmpA f0 f1 x0 x1 ≤ 0
  · rw [if_pos h, compare_is]
    simp [h]
  · rw [if_neg h]
    simp [h]
theorem has_val (f0 f1 t0 t1 x0 x1 : Int) (b : Bool) (h : Hid (hasR f0 f1 t0 t1 x0 x1 = b)) (w : World) :
    Calls Try.prog 11 #[.agg #[.int .u64 f0, .int .u64 f1, .int .u64 t0, .int .u64 t1], .agg #[.int .u64 x0, .int .u64 x1]] w fun e w' => e = .returned (.bool b) ∧ Below w.heap.size w w' :=
  addr_Has.calls 3 f0 f1 t0 t1 x0 x1 _ w (by rw [has_is 0, h.out])
end Go.Proofs.Ytboehjockmpejaa.Print
