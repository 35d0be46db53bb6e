/-
Next and Prev of the reference, and the small functions on numbers of the program and of the reference: each comes to the same Lean function.
Conditions: numbers of their kinds.
-/
import Derived.Test.YtboehjockmpejaaNext
import Derived.Test.YtboehjockmpejaaPrint2
import Derived.Test.YtboehjockmpejaaPrint3
import Derived.RegionTactic
import Derived.BigRegion
import Derived.ChangeAlike
import Derived.Deep.RegionHeld3
import Derived.Laws.BitsLemmas
namespace Go.Proofs.Ytboehjockmpejaa.Print
open Go.RowKit Go.ChangeShapes Go.Proofs.YtboehjockmpejaaW.PrintWords
attribute [local go_sem high] eqA24

set_option maxHeartbeats 800000 in
theorem refNext_low (a0 a1 b1 : Int) (h1 : IntKind.u64.wrap (a1 + 1) = b1) (hb : (b1 == 0) = false) (w : World) :
    Calls Try.prog 15 #[.agg #[.int .u64 a0, .int .u64 a1]] w fun e w' => e = .returned (.tuple #[.agg #[.int .u64 a0, .int .u64 b1], .bool true]) ∧ Below w.heap.size w w' := by
  go_enter Try.func15, Try.ntmps15
  go_wp2_with fail
  go_region
  go_wp2_with fail
  refine bodyPost_ret (v := .tuple #[.agg #[.int .u64 a0, .int .u64 b1], .bool true]) (by simp [results, Try.results15, go_sem]) rfl ⟨rfl, ?_⟩
  exact (ba (ba (ba1 _ _) _) _).drew
set_option maxHeartbeats 800000 in
theorem refNext_high (a0 a1 b0 : Int) (ok : Bool) (h1 : IntKind.u64.wrap (a1 + 1) = 0) (h0 : IntKind.u64.wrap (a0 + 1) = b0) (hb : (b0 == 0) = !ok) (w : World) :
    Calls Try.prog 15 #[.agg #[.int .u64 a0, .int .u64 a1]] w fun e w' => e = .returned (.tuple #[.agg #[.int .u64 b0, .int .u64 0], .bool ok]) ∧ Below w.heap.size w w' := by
  cases ok
  all_goals
    go_enter Try.func15, Try.ntmps15
    go_wp2_with fail
    go_region
    go_wp2_with fail
    first
    | refine bodyPost_ret (v := .tuple #[.agg #[.int .u64 b0, .int .u64 0], .bool true]) (by simp [results, Try.results15, go_sem]) rfl ⟨rfl, ?_⟩
    | refine bodyPost_ret (v := .tuple #[.agg #[.int .u64 b0, .int .u64 0], .bool false]) (by simp [results, Try.results15, go_sem]) rfl ⟨rfl, ?_⟩
    exact (ba (ba (ba1 _ _) _) _).drew
theorem refNext_val (a0 a1 n0 n1 : Int) (ok : Bool) (w0 : 0 ≤ a0 ∧ a0 ≤ top) (w1 : 0 ≤ a1 ∧ a1 ≤ top) (hn : Hid (nextA a0 a1 = (n0, n1, ok))) (w : World) :
    Calls Try.prog 15 #[.agg #[.int .u64 a0, .int .u64 a1]] w fun e w' => e = .returned (.tuple #[.agg #[.int .u64 n0, .int .u64 n1], .bool ok]) ∧ Below w.heap.size w w' := by
  have hn' := hn.out
  clear hn
  unfold nextA at hn'
  by_cases e1 : a1 = top
  · rw [if_pos e1] at hn'
    have k1 : IntKind.u64.wrap (a1 + 1) = 0 := by rw [e1]; rfl
    by_cases e0 : a0 = top
    · rw [if_pos e0] at hn'
      simp only [Prod.mk.injEq] at hn'
      obtain ⟨q1, q2, q3⟩ := hn'
      subst q1 q2 q3
      exact refNext_high a0 a1 0 false k1 (by rw [e0]; rfl) rfl w
    · rw [if_neg e0] at hn'
      simp only [Prod.mk.injEq] at hn'
      obtain ⟨q1, q2, q3⟩ := hn'
      subst q1 q2 q3
      exact refNext_high a0 a1 (a0 + 1) true k1 (IntWalk.u64_in _ (by unfold top at e0 w0; omega)) (by rw [beq_eq_false_iff_ne.mpr (by omega)]; rfl) w
  · rw [if_neg e1] at hn'
    simp only [Prod.mk.injEq] at hn'
    obtain ⟨q1, q2, q3⟩ := hn'
    subst q1 q2 q3
    exact refNext_low a0 a1 (a1 + 1) (IntWalk.u64_in _ (by unfold top at e1 w1; omega)) (beq_eq_false_iff_ne.mpr (by omega)) w

set_option maxHeartbeats 800000 in
theorem refPrev_zero (w : World) : Calls Try.prog 16 #[.agg #[.int .u64 0, .int .u64 0]] w fun e w' => e = .returned (.tuple #[.agg #[.int .u64 0, .int .u64 0], .bool false]) ∧ Below w.heap.size w w' := by
  go_enter Try.func16, Try.ntmps16
  go_wp2_with fail
  refine bodyPost_ret (v := .tuple #[.agg #[.int .u64 0, .int .u64 0], .bool false]) (by simp [results, Try.results16, go_sem]) rfl ⟨rfl, ?_⟩
  exact ba (ba1 _ _) _
set_option maxHeartbeats 800000 in
theorem refPrev_low (a0 a1 b1 : Int) (hz1 : (a1 == 0) = false) (h1 : IntKind.u64.wrap (a1 - 1) = b1) (w : World) :
    Calls Try.prog 16 #[.agg #[.int .u64 a0, .int .u64 a1]] w fun e w' => e = .returned (.tuple #[.agg #[.int .u64 a0, .int .u64 b1], .bool true]) ∧ Below w.heap.size w w' := by
  go_enter Try.func16, Try.ntmps16
  go_wp2_with fail
  refine bodyPost_ret (v := .tuple #[.agg #[.int .u64 a0, .int .u64 b1], .bool true]) (by simp [results, Try.results16, go_sem]) rfl ⟨rfl, ?_⟩
  exact ba (ba (ba1 _ _) _) _
set_option maxHeartbeats 800000 in
theorem refPrev_high (a0 b0 b1 : Int) (hz : (a0 == 0) = false) (h0 : IntKind.u64.wrap (a0 - 1) = b0) (h1 : IntKind.u64.wrap (-1) = b1) (w : World) :
    Calls Try.prog 16 #[.agg #[.int .u64 a0, .int .u64 0]] w fun e w' => e = .returned (.tuple #[.agg #[.int .u64 b0, .int .u64 b1], .bool true]) ∧ Below w.heap.size w w' := by
  go_enter Try.func16, Try.ntmps16
  go_wp2_with fail
  refine bodyPost_ret (v := .tuple #[.agg #[.int .u64 b0, .int .u64 b1], .bool true]) (by simp [results, Try.results16, go_sem]) rfl ⟨rfl, ?_⟩
  exact ba (ba (ba1 _ _) _) _
theorem refPrev_val (a0 a1 n0 n1 : Int) (ok : Bool) (w0 : 0 ≤ a0 ∧ a0 ≤ top) (w1 : 0 ≤ a1 ∧ a1 ≤ top) (hn : Hid (prevA a0 a1 = (n0, n1, ok))) (w : World) :
    Calls Try.prog 16 #[.agg #[.int .u64 a0, .int .u64 a1]] w fun e w' => e = .returned (.tuple #[.agg #[.int .u64 n0, .int .u64 n1], .bool ok]) ∧ Below w.heap.size w w' := by
  have hn' := hn.out
  clear hn
  unfold prevA at hn'
  by_cases e1 : a1 = 0
  · rw [if_pos e1] at hn'
    by_cases e0 : a0 = 0
    · rw [if_pos e0] at hn'
      simp only [Prod.mk.injEq] at hn'
      obtain ⟨q1, q2, q3⟩ := hn'
      subst q1 q2 q3 e1 e0
      exact refPrev_zero w
    · rw [if_neg e0] at hn'
      simp only [Prod.mk.injEq] at hn'
      obtain ⟨q1, q2, q3⟩ := hn'
      subst q1 q2 q3 e1
      exact refPrev_high a0 (a0 - 1) top (beq_eq_false_iff_ne.mpr e0) (IntWalk.u64_in _ (by unfold top at w0; omega)) rfl w
  · rw [if_neg e1] at hn'
    simp only [Prod.mk.injEq] at hn'
    obtain ⟨q1, q2, q3⟩ := hn'
    subst q1 q2 q3
    exact refPrev_low a0 a1 (a1 - 1) (beq_eq_false_iff_ne.mpr e1) (IntWalk.u64_in _ (by unfold top at w1; omega)) w

/-- Is a number an IPv4 address? -/
def is4 (a0 a1 : Int) : Bool := a0 == 0 && decide (281470681743360 ≤ a1 ∧ a1 ≤ 281474976710655)
theorem is4_f (a0 a1 : Int) : addr_Is4.f a0 a1 = some (is4 a0 a1) := by
  unfold addr_Is4.f is4
  by_cases h : a0 = 0
  · subst h
    rw [if_pos rfl, show ((0 : Int) == 0) = true from rfl, Bool.true_and]
    congr 1
    by_cases h2 : 281470681743360 ≤ a1 ∧ a1 ≤ 281474976710655
    · rw [decide_eq_true h2, beq_iff_eq]; omega
    · rw [decide_eq_false h2, beq_eq_false_iff_ne]; omega
  · rw [if_neg h, beq_eq_false_iff_ne.mpr h, Bool.false_and]
theorem refIs4_f (a0 a1 : Int) : sallyportref03_Is4.f a0 a1 = some (is4 a0 a1) := by
  unfold sallyportref03_Is4.f is4
  by_cases h : a0 = 0
  · subst h
    by_cases h2 : a1 ≥ 281470681743360
    · rw [if_pos rfl, if_pos h2]
      simp [show 281470681743360 ≤ a1 from h2]
    · rw [if_pos rfl, if_neg h2]
      simp [show ¬ 281470681743360 ≤ a1 from h2]
  · simp [h]
theorem is4_calls (a0 a1 : Int) (w : World) : Calls Try.prog 12 #[.agg #[.int .u64 a0, .int .u64 a1]] w fun e w' => e = .returned (.bool (is4 a0 a1)) ∧ Below w.heap.size w w' :=
  addr_Is4.calls a0 a1 _ w (is4_f a0 a1)
theorem refIs4_calls (a0 a1 : Int) (w : World) : Calls Try.prog 17 #[.agg #[.int .u64 a0, .int .u64 a1]] w fun e w' => e = .returned (.bool (is4 a0 a1)) ∧ Below w.heap.size w w' :=
  sallyportref03_Is4.calls a0 a1 _ w (refIs4_f a0 a1)

theorem of4_bits (n : Int) (h0 : 0 ≤ n) (h1 : n ≤ 4294967295) : Go.bits .or .u64 281470681743360 (IntKind.u64.wrap n) = 281470681743360 + n := by
  rw [IntWalk.u64_in _ (by omega)]
  have e1 : (2 : Int) ^ 49 = 562949953421312 := by decide
  have e2 : (2 : Int) ^ 32 = 4294967296 := by decide
  exact bits_join .u64 49 (by decide) (fun m k0 k1 => IntWalk.u64_in m (by omega)) 32 _ n (by decide) (by decide) (by decide) h0 (by omega) (by omega)
theorem of4_calls (n : Int) (h0 : 0 ≤ n) (h1 : n ≤ 4294967295) (w : World) : Calls Try.prog 18 #[.int .u32 n] w fun e w' => e = .returned (.agg #[.int .u64 0, .int .u64 (281470681743360 + n)]) ∧ Below w.heap.size w w' :=
  addr_Of4.calls n _ _ w (by unfold addr_Of4.f; rw [of4_bits n h0 h1])
theorem refOf4_calls (n : Int) (h0 : 0 ≤ n) (h1 : n ≤ 4294967295) (w : World) : Calls Try.prog 19 #[.int .u32 n] w fun e w' => e = .returned (.agg #[.int .u64 0, .int .u64 (281470681743360 + n)]) ∧ Below w.heap.size w w' :=
  sallyportref03_Of4.calls n _ _ w (by unfold sallyportref03_Of4.f; rw [IntWalk.u64_in n (by omega), IntWalk.u64_in _ (by omega)])
theorem of_calls (n : Int) (w : World) : Calls Try.prog 20 #[.int .i64 n] w fun e w' => e = .returned (.agg #[.int .u64 0, .int .u64 (IntKind.u64.wrap (mx n 0))]) ∧ Below w.heap.size w w' :=
  addr_Of.calls n _ _ w rfl
theorem refOf_calls (n : Int) (w : World) : Calls Try.prog 21 #[.int .i64 n] w fun e w' => e = .returned (.agg #[.int .u64 0, .int .u64 (IntKind.u64.wrap (mx n 0))]) ∧ Below w.heap.size w w' :=
  sallyportref03_Of.calls n _ _ w (by unfold sallyportref03_Of.f; rw [show mx 0 n = mx n 0 from by unfold mx; omega])
end Go.Proofs.Ytboehjockmpejaa.Print
