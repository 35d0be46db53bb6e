/-
Next and Prev of the program: the number one more, the number one less.
Conditions: numbers of 64 bits.
-/
import Derived.Test.YtboehjockmpejaaHand
import Derived.Laws.Externs
import Derived.OpenShut
namespace Go.Proofs.Ytboehjockmpejaa.Print
open Go.RowKit Go.ChangeShapes Go.Proofs.YtboehjockmpejaaW.PrintWords

/-- The greatest number of 64 bits, behind a name. -/
def top : Int := 18446744073709551615
def nextA (a0 a1 : Int) : Int × Int × Bool := if a1 = top then (if a0 = top then (0, 0, false) else (a0 + 1, 0, true)) else (a0, a1 + 1, true)
def prevA (a0 a1 : Int) : Int × Int × Bool := if a1 = 0 then (if a0 = 0 then (0, 0, false) else (a0 - 1, top, true)) else (a0, a1 - 1, true)

theorem add64_run (x y c s o : Int) (hx : 0 ≤ x) (hy : 0 ≤ y) (hc : c = 0 ∨ c = 1) (hs : s = (x + y + c) % 18446744073709551616) (ho : o = (x + y + c) / 18446744073709551616) (hx' : x ≤ top) (hy' : y ≤ top) (w : World) :
    (callFunc 26 #[.int .u64 x, .int .u64 y, .int .u64 c]).run Try.prog w = .ok (.value (.tuple #[.int .u64 s, .int .u64 o])) w := by
  obtain ⟨x, rfl⟩ := Int.eq_ofNat_of_zero_le hx
  obtain ⟨y, rfl⟩ := Int.eq_ofNat_of_zero_le hy
  obtain ⟨c, rfl⟩ := Int.eq_ofNat_of_zero_le (show 0 ≤ c by omega)
  unfold top at hx' hy'
  rw [run_callFunc_extern Try.func26 (by kernel_rfl) (by kernel_rfl) (by kernel_rfl) (e := add64Entry) (by kernel_rfl), run_add64 x y c (by omega) (by omega) (by omega) (by omega)]
  simp only [Result.andThen]
  rw [hs, ho]

def sub64Entry : Array Value → Sem Value := fun args => do
  let (x, y, b) ← Extern.MathBitsCarry.three "Sub64" args
  pure (Extern.MathBitsCarry.pair ((x + Extern.MathBitsCarry.m64 - y - b) % Extern.MathBitsCarry.m64) (if x < y + b then 1 else 0))
theorem run_sub64 (P : Program) (x y b : Nat) (hb : b ≤ 1) (w : World) :
    (sub64Entry #[.int .u64 x, .int .u64 y, .int .u64 b]).run P w =
      .ok (.tuple #[.int .u64 (((x + 18446744073709551616 - y - b) % 18446744073709551616 : Nat) : Int), .int .u64 ((if x < y + b then 1 else 0 : Nat) : Int)]) w := by
  have : b = 0 ∨ b = 1 := by omega
  rcases this with rfl | rfl <;> rfl
theorem sub64_run (x s o : Int) (hx : 0 ≤ x) (hx' : x ≤ top) (hs : s = if x = 0 then top else x - 1) (ho : o = if x = 0 then 1 else 0) (w : World) :
    (callFunc 27 #[.int .u64 x, .int .u64 1, .int .u64 0]).run Try.prog w = .ok (.value (.tuple #[.int .u64 s, .int .u64 o])) w := by
  obtain ⟨x, rfl⟩ := Int.eq_ofNat_of_zero_le hx
  unfold top at hx' hs
  have e : (callFunc 27 #[.int .u64 (x : Int), .int .u64 ((1 : Nat) : Int), .int .u64 ((0 : Nat) : Int)]).run Try.prog w = .ok (.value (.tuple #[.int .u64 s, .int .u64 o])) w := by
    rw [run_callFunc_extern Try.func27 (by kernel_rfl) (by kernel_rfl) (by kernel_rfl) (e := sub64Entry) (by kernel_rfl), run_sub64 _ x 1 0 (by omega)]
    simp only [Result.andThen]
    have e1 : (((x + 18446744073709551616 - 1 - 0) % 18446744073709551616 : Nat) : Int) = s := by
      rw [hs]
      by_cases h : x = 0
      · subst h; rfl
      · rw [if_neg (by omega)]; omega
    have e2 : ((if x < 1 + 0 then 1 else 0 : Nat) : Int) = o := by
      rw [ho]
      by_cases h : x = 0
      · subst h; rfl
      · rw [if_neg (by omega), if_neg (by omega)]; rfl
    rw [e1, e2]
  exact e

set_option maxHeartbeats 800000 in
theorem next_walk (a0 a1 s c h o : Int) (h1 : ∀ w : World, (callFunc 26 #[.int .u64 a1, .int .u64 1, .int .u64 0]).run Try.prog w = .ok (.value (.tuple #[.int .u64 s, .int .u64 c])) w)
    (h2 : ∀ w : World, (callFunc 26 #[.int .u64 a0, .int .u64 0, .int .u64 c]).run Try.prog w = .ok (.value (.tuple #[.int .u64 h, .int .u64 o])) w) (w : World) :
    Calls Try.prog 13 #[.agg #[.int .u64 a0, .int .u64 a1]] w fun e w' => e = .returned (.tuple #[.agg #[.int .u64 h, .int .u64 s], .bool (o == 0)]) ∧ Below w.heap.size w w' := by
  go_enter Try.func13, Try.ntmps13
  go_wp2_with fail
  refine bodyPost_ret (v := .tuple #[.agg #[.int .u64 h, .int .u64 s], .bool (o == 0)]) (by simp [results, Try.results13, go_sem]) rfl ⟨rfl, ?_⟩
  exact ba (ba1 _ _) _

theorem next_val (a0 a1 n0 n1 : Int) (ok : Bool) (w0 : 0 ≤ a0 ∧ a0 ≤ top) (w1 : 0 ≤ a1 ∧ a1 ≤ top) (hn : Hid (nextA a0 a1 = (n0, n1, ok))) (w : World) :
    Calls Try.prog 13 #[.agg #[.int .u64 a0, .int .u64 a1]] w fun e w' => e = .returned (.tuple #[.agg #[.int .u64 n0, .int .u64 n1], .bool ok]) ∧ Below w.heap.size w w' := by
  have hn' := hn.out
  clear hn
  unfold nextA at hn'
  by_cases e1 : a1 = top
  · rw [if_pos e1] at hn'
    by_cases e0 : a0 = top
    · rw [if_pos e0] at hn'
      simp only [Prod.mk.injEq] at hn'
      obtain ⟨q1, q2, q3⟩ := hn'
      subst q1 q2 q3
      exact next_walk a0 a1 0 1 0 1 (add64_run _ _ _ _ _ w1.1 (by omega) (Or.inl rfl) (by unfold top at e1; omega) (by unfold top at e1; omega) w1.2 (by unfold top; omega))
        (add64_run _ _ _ _ _ w0.1 (by omega) (Or.inr rfl) (by unfold top at e0; omega) (by unfold top at e0; omega) w0.2 (by unfold top; omega)) w
    · rw [if_neg e0] at hn'
      simp only [Prod.mk.injEq] at hn'
      obtain ⟨q1, q2, q3⟩ := hn'
      subst q1 q2 q3
      exact next_walk a0 a1 0 1 (a0 + 1) 0 (add64_run _ _ _ _ _ w1.1 (by omega) (Or.inl rfl) (by unfold top at e1; omega) (by unfold top at e1; omega) w1.2 (by unfold top; omega))
        (add64_run _ _ _ _ _ w0.1 (by omega) (Or.inr rfl) (by unfold top at e0 w0; omega) (by unfold top at e0 w0; omega) w0.2 (by unfold top; omega)) w
  · rw [if_neg e1] at hn'
    simp only [Prod.mk.injEq] at hn'
    obtain ⟨q1, q2, q3⟩ := hn'
    subst q1 q2 q3
    exact next_walk a0 a1 (a1 + 1) 0 a0 0 (add64_run _ _ _ _ _ w1.1 (by omega) (Or.inl rfl) (by unfold top at e1 w1; omega) (by unfold top at e1 w1; omega) w1.2 (by unfold top; omega))
      (add64_run _ _ _ _ _ w0.1 (by omega) (Or.inl rfl) (by unfold top at w0; omega) (by unfold top at w0; omega) w0.2 (by unfold top; omega)) w

attribute [local go_sem high] eqA24
set_option maxHeartbeats 800000 in
theorem prev_zero (w : World) : Calls Try.prog 14 #[.agg #[.int .u64 0, .int .u64 0]] w fun e w' => e = .returned (.tuple #[.agg #[.int .u64 0, .int .u64 0], .bool false]) ∧ Below w.heap.size w w' := by
  go_enter Try.func14, Try.ntmps14
  go_wp2_with fail
  refine bodyPost_ret (v := .tuple #[.agg #[.int .u64 0, .int .u64 0], .bool false]) (by simp [results, Try.results14, go_sem]) rfl ⟨rfl, ?_⟩
  exact ba (ba1 _ _) _
set_option maxHeartbeats 800000 in
theorem prev_walk (a0 a1 s c h : Int) (hz : (a0 == 0 && a1 == 0) = false) (h1 : ∀ w : World, (callFunc 27 #[.int .u64 a1, .int .u64 1, .int .u64 0]).run Try.prog w = .ok (.value (.tuple #[.int .u64 s, .int .u64 c])) w)
    (h2 : IntKind.u64.wrap (a0 - c) = h) (w : World) :
    Calls Try.prog 14 #[.agg #[.int .u64 a0, .int .u64 a1]] w fun e w' => e = .returned (.tuple #[.agg #[.int .u64 h, .int .u64 s], .bool true]) ∧ Below w.heap.size w w' := by
  go_enter Try.func14, Try.ntmps14
  go_wp2_with fail
  refine bodyPost_ret (v := .tuple #[.agg #[.int .u64 h, .int .u64 s], .bool true]) (by simp [results, Try.results14, go_sem]) rfl ⟨rfl, ?_⟩
  exact ba (ba1 _ _) _

theorem prev_val (a0 a1 n0 n1 : Int) (ok : Bool) (w0 : 0 ≤ a0 ∧ a0 ≤ top) (w1 : 0 ≤ a1 ∧ a1 ≤ top) (hn : Hid (prevA a0 a1 = (n0, n1, ok))) (w : World) :
    Calls Try.prog 14 #[.agg #[.int .u64 a0, .int .u64 a1]] w fun e w' => e = .returned (.tuple #[.agg #[.int .u64 n0, .int .u64 n1], .bool ok]) ∧ Below w.heap.size w w' := by
  have hn' := hn.out
  clear hn
  unfold prevA at hn'
  by_cases e1 : a1 = 0
  · rw [if_pos e1] at hn'
    by_cases e0 : a0 = 0
    · rw [if_pos e0] at hn'
      simp only [Prod.mk.injEq] at hn'
      obtain ⟨q1, q2, q3⟩ := hn'
      subst q1 q2 q3 e1 e0
      exact prev_zero w
    · rw [if_neg e0] at hn'
      simp only [Prod.mk.injEq] at hn'
      obtain ⟨q1, q2, q3⟩ := hn'
      subst q1 q2 q3
      exact prev_walk a0 a1 top 1 (a0 - 1) (by simp [e0]) (sub64_run _ _ _ w1.1 w1.2 (by rw [if_pos e1]) (by rw [if_pos e1])) (IntWalk.u64_in _ (by unfold top at w0; omega)) w
  · rw [if_neg e1] at hn'
    simp only [Prod.mk.injEq] at hn'
    obtain ⟨q1, q2, q3⟩ := hn'
    subst q1 q2 q3
    exact prev_walk a0 a1 (a1 - 1) 0 a0 (by simp [e1]) (sub64_run _ _ _ w1.1 w1.2 (by rw [if_neg e1]) (by rw [if_neg e1])) (by rw [Int.sub_zero]; exact IntWalk.u64_in _ w0) w
end Go.Proofs.Ytboehjockmpejaa.Print
