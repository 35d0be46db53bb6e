/-
Plain facts of comparing addresses: the printed Compare of the program and that of the reference come to one number, whose sign tells the order.
Conditions: none.
-/
import Derived.Test.YtboehjockmpejaaPrint2
namespace Go.Proofs.Ytboehjockmpejaa.Print
open Go.RowKit Go.Proofs.YtboehjockmpejaaW.PrintWords Go.Proofs.YtboehjockmpejaaW.PrintLast

/-- Two numbers, compared. -/
def cmp1 (a b : Int) : Int := if a < b then -1 else if b < a then 1 else 0
/-- Two addresses, compared. -/
def cmpA (a0 a1 b0 b1 : Int) : Int := if cmp1 a0 b0 = 0 then cmp1 a1 b1 else cmp1 a0 b0

theorem cmp1_cases (a b : Int) : (a < b ∧ cmp1 a b = -1) ∨ (a = b ∧ cmp1 a b = 0) ∨ (b < a ∧ cmp1 a b = 1) := by
  unfold cmp1
  rcases Int.lt_trichotomy a b with h | h | h
  · left; exact ⟨h, by rw [if_pos h]⟩
  · right; left; exact ⟨h, by rw [if_neg (by omega), if_neg (by omega)]⟩
  · right; right; exact ⟨h, by rw [if_neg (by omega), if_pos h]⟩

theorem cmpA_cases (a0 a1 b0 b1 : Int) : ((a0 < b0 ∨ a0 = b0 ∧ a1 < b1) ∧ cmpA a0 a1 b0 b1 = -1) ∨ (a0 = b0 ∧ a1 = b1 ∧ cmpA a0 a1 b0 b1 = 0) ∨ ((b0 < a0 ∨ a0 = b0 ∧ b1 < a1) ∧ cmpA a0 a1 b0 b1 = 1) := by
  unfold cmpA
  rcases cmp1_cases a0 b0 with ⟨h, e⟩ | ⟨h, e⟩ | ⟨h, e⟩ <;> rcases cmp1_cases a1 b1 with ⟨h', e'⟩ | ⟨h', e'⟩ | ⟨h', e'⟩ <;> rw [e, e'] <;> simp <;> omega

theorem isNaN_no (a : Int) : cmp_isNaN_uint64.f a = some false := by simp [cmp_isNaN_uint64.f]
theorem cmpU (a b : Int) : cmp_Compare_uint64.f a b = some (cmp1 a b) := by
  unfold cmp_Compare_uint64.f cmp1
  rw [isNaN_no, isNaN_no]
  simp only [Option.bind_some, gt_iff_lt]
  by_cases h : a < b
  · simp [h]
  · by_cases h' : b < a <;> simp [h, h']
theorem or_two (k : Nat) (x y : Int) : cmp_Or_int.f (k + 3) [x, y] = some (if x = 0 then y else x) := by
  simp only [cmp_Or_int.f, cmp_Or_int.l0]
  by_cases hx : x = 0 <;> by_cases hy : y = 0 <;> simp [rd, wrap64, hx, hy]
theorem compare_is (k : Nat) (a0 a1 b0 b1 : Int) : addr_Compare.f (k + 3) a0 a1 b0 b1 = some (cmpA a0 a1 b0 b1) := by
  simp only [addr_Compare.f, cmpU, Option.bind_some, or_two]
  rfl
theorem refCompare_is (k : Nat) (a0 a1 b0 b1 : Int) : sallyportref03_Compare.f (k + 1) a0 a1 b0 b1 = some (cmpA a0 a1 b0 b1) := by
  simp only [sallyportref03_Compare.f, sallyportref03_Compare.j0]
  rcases cmpA_cases a0 a1 b0 b1 with ⟨h, e⟩ | ⟨h, h2, e⟩ | ⟨h, e⟩ <;> rw [e]
  · by_cases h3 : a0 < b0
    · simp [h3]
    · have h4 : a0 = b0 := by omega
      have h5 : a1 < b1 := by omega
      simp [h4, h5]
  · subst h; subst h2; simp
  · by_cases h4 : a0 = b0
    · have h5 : ¬ a1 < b1 := by omega
      have h6 : ¬ a1 = b1 := by omega
      simp [h4, h5, h6]
    · have h3 : ¬ a0 < b0 := by omega
      simp [h3, h4]
end Go.Proofs.Ytboehjockmpejaa.Print
