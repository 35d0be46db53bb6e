/-
The law AddrPrefixes's walk: whatever two addresses and two numbers it is called with, it returns true and leaves what was there as it was.
Conditions: numbers of their kinds.
-/
import Derived.Test.YtboehjockmpejaaPrefix
import Derived.Lib.SmallJoins
namespace Go.Proofs.Ytboehjockmpejaa.Print
open Go.RowKit Go.ChangeShapes Go.Proofs.YtboehjockmpejaaW.PrintWords
attribute [local go_sem high] eqA24

theorem prefP_cases (a0 a1 n : Int) : prefP a0 a1 n = (0, 0, 0, 0, 31) ∨
    (0 ≤ n ∧ n ≤ (if is4 a0 a1 = true then 32 else 128) ∧ a0 % hiB (n + 128 - (if is4 a0 a1 = true then 32 else 128)).toNat = 0 ∧ a1 % loB (n + 128 - (if is4 a0 a1 = true then 32 else 128)).toNat = 0 ∧
      prefP a0 a1 n = (a0, a1, a0 + (hiB (n + 128 - (if is4 a0 a1 = true then 32 else 128)).toNat - 1), a1 + (loB (n + 128 - (if is4 a0 a1 = true then 32 else 128)).toNat - 1), 0)) := by
  unfold prefP
  by_cases h : n < 0 ∨ (if is4 a0 a1 = true then 32 else 128) < n
  · left; rw [if_pos h]
  · by_cases h2 : a0 % hiB (n + 128 - (if is4 a0 a1 = true then 32 else 128)).toNat = 0 ∧ a1 % loB (n + 128 - (if is4 a0 a1 = true then 32 else 128)).toNat = 0
    · right
      refine ⟨by omega, by omega, h2.1, h2.2, ?_⟩
      rw [if_neg h, if_pos h2]
    · left; rw [if_neg h, if_neg h2]

set_option maxHeartbeats 800000 in
theorem prefixes_refused (a0 a1 b0 b1 n m : Int) (W0 : Aside0 (0 ≤ a0 ∧ a0 ≤ top)) (W1 : Aside0 (0 ≤ a1 ∧ a1 ≤ top)) (h : Hid (prefP a0 a1 n = (0, 0, 0, 0, 31))) (w : World) :
    Calls Try.prog 4 #[.agg #[.int .u64 a0, .int .u64 a1], .agg #[.int .u64 b0, .int .u64 b1], .int .i64 n, .int .i64 m] w fun e w' => e = .returned (.bool true) ∧ Below w.heap.size w w' := by
  go_enter Try.func4, Try.ntmps4
  go_wp2_with fail
  refine (prefix_val _ _ _ _ _ _ _ _ W0.out W1.out h _).mono ?_
  rintro e w1 ⟨rfl, hb⟩
  obtain ⟨z0, z1⟩ : w.heap.size < w1.heap.size ∧ w.heap.size + 1 < w1.heap.size := by have := hb.size; simp at this; omega
  obtain ⟨c1, f1⟩ := bcell hb
  have HB1 := bnext (ba (ba1 _ _) _) hb
  clear hb
  go_wp2_with fail
  refine (refPrefix_val _ _ _ _ _ _ _ _ W0.out W1.out h _).mono ?_
  rintro e w2 ⟨rfl, hb⟩
  have HB2 := bnext (ba HB1 _) hb
  go_wp2_with fail
  go_ret
  exact ⟨rfl, ba HB2 _⟩

set_option maxHeartbeats 1600000 in
theorem prefixes_walk (a0 a1 b0 b1 n m t0 t1 v q0 q1 q2 q3 q4 : Int) (hq : Bool) (W0 : Aside0 (0 ≤ a0 ∧ a0 ≤ top)) (W1 : Aside0 (0 ≤ a1 ∧ a1 ≤ top)) (V0 : Aside0 (0 ≤ b0 ∧ b0 ≤ top)) (V1 : Aside0 (0 ≤ b1 ∧ b1 ≤ top))
    (h : Hid (prefP a0 a1 n = (a0, a1, t0, t1, 0))) (h2 : Hid (hasR a0 a1 t0 t1 a0 a1 = true)) (h3 : Hid (cmpA a0 a1 t0 t1 = v)) (hv : ¬ (0 < v)) (h4 : Hid (prefP b0 b1 m = (q0, q1, q2, q3, q4)))
    (h5 : Hid ((q4 != 0) = true ∨ ((q4 != 0) = false ∧ n < m) ∨ ((q4 != 0) = false ∧ m ≤ n ∧ (!is4 a0 a1 == is4 b0 b1) = true) ∨ ((q4 != 0) = false ∧ m ≤ n ∧ (!is4 a0 a1 == is4 b0 b1) = false ∧ hasR q0 q1 q2 q3 a0 a1 = hq ∧ hasR q0 q1 q2 q3 t0 t1 = hq))) (w : World) :
    Calls Try.prog 4 #[.agg #[.int .u64 a0, .int .u64 a1], .agg #[.int .u64 b0, .int .u64 b1], .int .i64 n, .int .i64 m] w fun e w' => e = .returned (.bool true) ∧ Below w.heap.size w w' := by
  go_enter Try.func4, Try.ntmps4
  go_wp2_with fail
  refine (prefix_val _ _ _ _ _ _ _ _ W0.out W1.out h _).mono ?_
  rintro e w1 ⟨rfl, hb⟩
  obtain ⟨z0, z1⟩ : w.heap.size < w1.heap.size ∧ w.heap.size + 1 < w1.heap.size := by have := hb.size; simp at this; omega
  obtain ⟨c1, f1⟩ := bcell hb
  have HB1 := bnext (ba (ba1 _ _) _) hb
  clear hb
  go_wp2_with fail
  refine (refPrefix_val _ _ _ _ _ _ _ _ W0.out W1.out h _).mono ?_
  rintro e w2 ⟨rfl, hb⟩
  obtain ⟨z2, z3, z4⟩ : w.heap.size < w2.heap.size ∧ w.heap.size + 1 < w2.heap.size ∧ w1.heap.size < w2.heap.size := by have := hb.size; simp at this; omega
  obtain ⟨c2, f2⟩ := bcell hb
  have HB2 := bnext (ba HB1 _) hb
  clear hb
  go_wp2_with fail
  refine (has_val _ _ _ _ _ _ _ h2 _).mono ?_
  rintro e w3 ⟨rfl, hb⟩
  obtain ⟨z30, z31, z32, z33⟩ : w.heap.size < w3.heap.size ∧ w.heap.size + 1 < w3.heap.size ∧ w1.heap.size < w3.heap.size ∧ w2.heap.size < w3.heap.size := by have := hb.size; (try simp at this); omega
  obtain ⟨c3, f3⟩ := bcell hb
  have HB3 := bnext (ba HB2 _) hb
  clear hb
  go_wp2_with fail
  refine (compare_val _ _ _ _ _ h3 _).mono ?_
  rintro e w4 ⟨rfl, hb⟩
  obtain ⟨z40, z41, z42, z43⟩ : w.heap.size < w4.heap.size ∧ w.heap.size + 1 < w4.heap.size ∧ w1.heap.size < w4.heap.size ∧ w2.heap.size < w4.heap.size := by have := hb.size; (try simp at this); omega
  obtain ⟨c4, f4⟩ := bcell hb
  have HB4 := bnext (HB3) hb
  clear hb
  go_wp2_with fail
  refine (prefix_val _ _ _ _ _ _ _ _ V0.out V1.out h4 _).mono ?_
  rintro e w5 ⟨rfl, hb⟩
  obtain ⟨z50, z51, z52, z53⟩ : w.heap.size < w5.heap.size ∧ w.heap.size + 1 < w5.heap.size ∧ w1.heap.size < w5.heap.size ∧ w2.heap.size < w5.heap.size := by have := hb.size; (try simp at this); omega
  obtain ⟨c5, f5⟩ := bcell hb
  have HB5 := bnext (HB4) hb
  clear hb
  rcases h5.out with e1 | ⟨e1, e2⟩ | ⟨e1, e2, e3⟩ | ⟨e1, e2, e3, e4, e5⟩
  · go_wp2_with fail
    go_quiet (fail)
    go_wp2_with fail
    go_ret
    refine ⟨rfl, ?_⟩
    exact (ba HB5 _).trans (Go.Joins.below_draws _ _ _)
  · go_wp2_with fail
    go_quiet (fail)
    go_wp2_with fail
    go_ret
    refine ⟨rfl, ?_⟩
    exact (ba HB5 _).trans (Go.Joins.below_draws _ _ _)
  · have e2' : decide (n < m) = false := decide_eq_false (by omega)
    go_wp2_with fail
    have HB6 := ba HB5 (Obj.cells #[Value.int IntKind.u64 q0, Value.int IntKind.u64 q1, Value.int IntKind.u64 q2, Value.int IntKind.u64 q3] 28)
    have k00 : (w5.alloc (Obj.cells #[Value.int IntKind.u64 q0, Value.int IntKind.u64 q1, Value.int IntKind.u64 q2, Value.int IntKind.u64 q3] 28)).cell? ⟨w.heap.size, 0, none⟩ = some (.int .u64 a0) := by go_simp
    have k01 : (w5.alloc (Obj.cells #[Value.int IntKind.u64 q0, Value.int IntKind.u64 q1, Value.int IntKind.u64 q2, Value.int IntKind.u64 q3] 28)).cell? ⟨w.heap.size, 1, none⟩ = some (.int .u64 a1) := by go_simp
    have k10 : (w5.alloc (Obj.cells #[Value.int IntKind.u64 q0, Value.int IntKind.u64 q1, Value.int IntKind.u64 q2, Value.int IntKind.u64 q3] 28)).cell? ⟨w.heap.size + 1, 0, none⟩ = some (.int .u64 b0) := by go_simp
    have k11 : (w5.alloc (Obj.cells #[Value.int IntKind.u64 q0, Value.int IntKind.u64 q1, Value.int IntKind.u64 q2, Value.int IntKind.u64 q3] 28)).cell? ⟨w.heap.size + 1, 1, none⟩ = some (.int .u64 b1) := by go_simp
    have k20 : (w5.alloc (Obj.cells #[Value.int IntKind.u64 q0, Value.int IntKind.u64 q1, Value.int IntKind.u64 q2, Value.int IntKind.u64 q3] 28)).cell? ⟨w1.heap.size, 0, none⟩ = some (.int .u64 a0) := by go_simp
    have k21 : (w5.alloc (Obj.cells #[Value.int IntKind.u64 q0, Value.int IntKind.u64 q1, Value.int IntKind.u64 q2, Value.int IntKind.u64 q3] 28)).cell? ⟨w1.heap.size, 1, none⟩ = some (.int .u64 a1) := by go_simp
    have k22 : (w5.alloc (Obj.cells #[Value.int IntKind.u64 q0, Value.int IntKind.u64 q1, Value.int IntKind.u64 q2, Value.int IntKind.u64 q3] 28)).cell? ⟨w1.heap.size, 2, none⟩ = some (.int .u64 t0) := by go_simp
    have k23 : (w5.alloc (Obj.cells #[Value.int IntKind.u64 q0, Value.int IntKind.u64 q1, Value.int IntKind.u64 q2, Value.int IntKind.u64 q3] 28)).cell? ⟨w1.heap.size, 3, none⟩ = some (.int .u64 t1) := by go_simp
    have k30 : (w5.alloc (Obj.cells #[Value.int IntKind.u64 q0, Value.int IntKind.u64 q1, Value.int IntKind.u64 q2, Value.int IntKind.u64 q3] 28)).cell? ⟨w5.heap.size, 0, none⟩ = some (.int .u64 q0) := by go_simp
    have k31 : (w5.alloc (Obj.cells #[Value.int IntKind.u64 q0, Value.int IntKind.u64 q1, Value.int IntKind.u64 q2, Value.int IntKind.u64 q3] 28)).cell? ⟨w5.heap.size, 1, none⟩ = some (.int .u64 q1) := by go_simp
    have k32 : (w5.alloc (Obj.cells #[Value.int IntKind.u64 q0, Value.int IntKind.u64 q1, Value.int IntKind.u64 q2, Value.int IntKind.u64 q3] 28)).cell? ⟨w5.heap.size, 2, none⟩ = some (.int .u64 q2) := by go_simp
    have k33 : (w5.alloc (Obj.cells #[Value.int IntKind.u64 q0, Value.int IntKind.u64 q1, Value.int IntKind.u64 q2, Value.int IntKind.u64 q3] 28)).cell? ⟨w5.heap.size, 3, none⟩ = some (.int .u64 q3) := by go_simp
    generalize w5.alloc (Obj.cells #[Value.int IntKind.u64 q0, Value.int IntKind.u64 q1, Value.int IntKind.u64 q2, Value.int IntKind.u64 q3] 28) = w6 at *
    clear c1 f1 c2 f2 c3 f3 c4 f4 c5 f5 HB1 HB2 HB3 HB4 HB5
    go_region_held3 (fun w' => Below w.heap.size w w' ∧ w'.cell? ⟨w.heap.size, 0, none⟩ = some (.int .u64 a0) ∧ w'.cell? ⟨w.heap.size, 1, none⟩ = some (.int .u64 a1) ∧ w'.cell? ⟨w.heap.size + 1, 0, none⟩ = some (.int .u64 b0) ∧ w'.cell? ⟨w.heap.size + 1, 1, none⟩ = some (.int .u64 b1) ∧ w'.cell? ⟨w1.heap.size, 0, none⟩ = some (.int .u64 a0) ∧ w'.cell? ⟨w1.heap.size, 1, none⟩ = some (.int .u64 a1) ∧ w'.cell? ⟨w1.heap.size, 2, none⟩ = some (.int .u64 t0) ∧ w'.cell? ⟨w1.heap.size, 3, none⟩ = some (.int .u64 t1) ∧ w'.cell? ⟨w5.heap.size, 0, none⟩ = some (.int .u64 q0) ∧ w'.cell? ⟨w5.heap.size, 1, none⟩ = some (.int .u64 q1) ∧ w'.cell? ⟨w5.heap.size, 2, none⟩ = some (.int .u64 q2) ∧ w'.cell? ⟨w5.heap.size, 3, none⟩ = some (.int .u64 q3)) (first | ((repeat' apply And.intro) <;> first | (refine Below.drew ?_; assumption) | go_keep) | (go_split_ands; refine ⟨bnext (by assumption) (by assumption), ?_⟩; (repeat' apply And.intro) <;> (refine pw_cell_below (by assumption) ?_; assumption)))
      (first | (go_at_call 12; refine (is4_calls _ _ _).mono ?_; rintro e w' ⟨rfl, hb⟩))
    go_wp2_with fail
    go_ret
    exact ⟨rfl, And.left (by assumption)⟩
  · have e4' : Hid (hasR q0 q1 q2 q3 a0 a1 = hq) := e4
    have e5' : Hid (hasR q0 q1 q2 q3 t0 t1 = hq) := e5
    clear e4 e5
    have e2' : decide (n < m) = false := decide_eq_false (by omega)
    go_wp2_with fail
    have HB6 := ba HB5 (Obj.cells #[Value.int IntKind.u64 q0, Value.int IntKind.u64 q1, Value.int IntKind.u64 q2, Value.int IntKind.u64 q3] 28)
    have k00 : (w5.alloc (Obj.cells #[Value.int IntKind.u64 q0, Value.int IntKind.u64 q1, Value.int IntKind.u64 q2, Value.int IntKind.u64 q3] 28)).cell? ⟨w.heap.size, 0, none⟩ = some (.int .u64 a0) := by go_simp
    have k01 : (w5.alloc (Obj.cells #[Value.int IntKind.u64 q0, Value.int IntKind.u64 q1, Value.int IntKind.u64 q2, Value.int IntKind.u64 q3] 28)).cell? ⟨w.heap.size, 1, none⟩ = some (.int .u64 a1) := by go_simp
    have k10 : (w5.alloc (Obj.cells #[Value.int IntKind.u64 q0, Value.int IntKind.u64 q1, Value.int IntKind.u64 q2, Value.int IntKind.u64 q3] 28)).cell? ⟨w.heap.size + 1, 0, none⟩ = some (.int .u64 b0) := by go_simp
    have k11 : (w5.alloc (Obj.cells #[Value.int IntKind.u64 q0, Value.int IntKind.u64 q1, Value.int IntKind.u64 q2, Value.int IntKind.u64 q3] 28)).cell? ⟨w.heap.size + 1, 1, none⟩ = some (.int .u64 b1) := by go_simp
    have k20 : (w5.alloc (Obj.cells #[Value.int IntKind.u64 q0, Value.int IntKind.u64 q1, Value.int IntKind.u64 q2, Value.int IntKind.u64 q3] 28)).cell? ⟨w1.heap.size, 0, none⟩ = some (.int .u64 a0) := by go_simp
    have k21 : (w5.alloc (Obj.cells #[Value.int IntKind.u64 q0, Value.int IntKind.u64 q1, Value.int IntKind.u64 q2, Value.int IntKind.u64 q3] 28)).cell? ⟨w1.heap.size, 1, none⟩ = some (.int .u64 a1) := by go_simp
    have k22 : (w5.alloc (Obj.cells #[Value.int IntKind.u64 q0, Value.int IntKind.u64 q1, Value.int IntKind.u64 q2, Value.int IntKind.u64 q3] 28)).cell? ⟨w1.heap.size, 2, none⟩ = some (.int .u64 t0) := by go_simp
    have k23 : (w5.alloc (Obj.cells #[Value.int IntKind.u64 q0, Value.int IntKind.u64 q1, Value.int IntKind.u64 q2, Value.int IntKind.u64 q3] 28)).cell? ⟨w1.heap.size, 3, none⟩ = some (.int .u64 t1) := by go_simp
    have k30 : (w5.alloc (Obj.cells #[Value.int IntKind.u64 q0, Value.int IntKind.u64 q1, Value.int IntKind.u64 q2, Value.int IntKind.u64 q3] 28)).cell? ⟨w5.heap.size, 0, none⟩ = some (.int .u64 q0) := by go_simp
    have k31 : (w5.alloc (Obj.cells #[Value.int IntKind.u64 q0, Value.int IntKind.u64 q1, Value.int IntKind.u64 q2, Value.int IntKind.u64 q3] 28)).cell? ⟨w5.heap.size, 1, none⟩ = some (.int .u64 q1) := by go_simp
    have k32 : (w5.alloc (Obj.cells #[Value.int IntKind.u64 q0, Value.int IntKind.u64 q1, Value.int IntKind.u64 q2, Value.int IntKind.u64 q3] 28)).cell? ⟨w5.heap.size, 2, none⟩ = some (.int .u64 q2) := by go_simp
    have k33 : (w5.alloc (Obj.cells #[Value.int IntKind.u64 q0, Value.int IntKind.u64 q1, Value.int IntKind.u64 q2, Value.int IntKind.u64 q3] 28)).cell? ⟨w5.heap.size, 3, none⟩ = some (.int .u64 q3) := by go_simp
    generalize w5.alloc (Obj.cells #[Value.int IntKind.u64 q0, Value.int IntKind.u64 q1, Value.int IntKind.u64 q2, Value.int IntKind.u64 q3] 28) = w6 at *
    clear c1 f1 c2 f2 c3 f3 c4 f4 c5 f5 HB1 HB2 HB3 HB4 HB5
    go_region_held3 (fun w' => Below w.heap.size w w' ∧ w'.cell? ⟨w.heap.size, 0, none⟩ = some (.int .u64 a0) ∧ w'.cell? ⟨w.heap.size, 1, none⟩ = some (.int .u64 a1) ∧ w'.cell? ⟨w.heap.size + 1, 0, none⟩ = some (.int .u64 b0) ∧ w'.cell? ⟨w.heap.size + 1, 1, none⟩ = some (.int .u64 b1) ∧ w'.cell? ⟨w1.heap.size, 0, none⟩ = some (.int .u64 a0) ∧ w'.cell? ⟨w1.heap.size, 1, none⟩ = some (.int .u64 a1) ∧ w'.cell? ⟨w1.heap.size, 2, none⟩ = some (.int .u64 t0) ∧ w'.cell? ⟨w1.heap.size, 3, none⟩ = some (.int .u64 t1) ∧ w'.cell? ⟨w5.heap.size, 0, none⟩ = some (.int .u64 q0) ∧ w'.cell? ⟨w5.heap.size, 1, none⟩ = some (.int .u64 q1) ∧ w'.cell? ⟨w5.heap.size, 2, none⟩ = some (.int .u64 q2) ∧ w'.cell? ⟨w5.heap.size, 3, none⟩ = some (.int .u64 q3)) (first | ((repeat' apply And.intro) <;> first | (refine Below.drew ?_; assumption) | go_keep) | (go_split_ands; refine ⟨bnext (by assumption) (by assumption), ?_⟩; (repeat' apply And.intro) <;> (refine pw_cell_below (by assumption) ?_; assumption)))
      (first | (go_at_call 12; refine (is4_calls _ _ _).mono ?_; rintro e w' ⟨rfl, hb⟩))
    go_wp2_with fail
    obtain ⟨hS0, s00, s01, s10, s11, s20, s21, s22, s23, s30, s31, s32, s33⟩ := ‹Below w.heap.size w _ ∧ _›
    go_region_held3 (fun w'' => Below w.heap.size w w'' ∧ w''.cell? ⟨w.heap.size, 0, none⟩ = some (.int .u64 a0) ∧ w''.cell? ⟨w.heap.size, 1, none⟩ = some (.int .u64 a1) ∧ w''.cell? ⟨w.heap.size + 1, 0, none⟩ = some (.int .u64 b0) ∧ w''.cell? ⟨w.heap.size + 1, 1, none⟩ = some (.int .u64 b1) ∧ w''.cell? ⟨w1.heap.size, 0, none⟩ = some (.int .u64 a0) ∧ w''.cell? ⟨w1.heap.size, 1, none⟩ = some (.int .u64 a1) ∧ w''.cell? ⟨w1.heap.size, 2, none⟩ = some (.int .u64 t0) ∧ w''.cell? ⟨w1.heap.size, 3, none⟩ = some (.int .u64 t1) ∧ w''.cell? ⟨w5.heap.size, 0, none⟩ = some (.int .u64 q0) ∧ w''.cell? ⟨w5.heap.size, 1, none⟩ = some (.int .u64 q1) ∧ w''.cell? ⟨w5.heap.size, 2, none⟩ = some (.int .u64 q2) ∧ w''.cell? ⟨w5.heap.size, 3, none⟩ = some (.int .u64 q3)) (first | ((repeat' apply And.intro) <;> first | (refine Below.drew ?_; assumption) | go_keep) | (go_split_ands; refine ⟨bnext (by assumption) (by assumption), ?_⟩; (repeat' apply And.intro) <;> (refine pw_cell_below (by assumption) ?_; assumption)))
      (first | (go_at_call 11; refine (has_val _ _ _ _ _ _ _ rfl _).mono ?_; rintro e w' ⟨rfl, hb⟩))
    go_wp2_with fail
    go_ret
    exact ⟨ret_bool (a := hasR q0 q1 q2 q3 a0 a1 == hasR q0 q1 q2 q3 t0 t1) (by rw [e4'.out, e5'.out]; simp), And.left (by assumption)⟩

/-- Between a number that a power divides and the last one with its first bits: those with its quotient. -/
theorem between {b x H : Int} (hH : 0 < H) (hb : b % H = 0) : (b ≤ x ∧ x ≤ b + (H - 1)) ↔ x / H = b / H := by
  have e1 := Int.emod_add_mul_ediv b H
  have e2 := Int.emod_add_mul_ediv x H
  have e3 := Int.emod_nonneg x (show H ≠ 0 by omega)
  have e4 := Int.emod_lt_of_pos x hH
  rw [hb] at e1
  constructor
  · intro h
    have h1 : H * (b / H) ≤ H * (x / H) + x % H := by omega
    have h2 : H * (x / H) + x % H < H * (b / H + 1) := by rw [Int.mul_add]; omega
    have h3 : H * (x / H) < H * (b / H + 1) := by omega
    have h4 : H * (b / H) < H * (x / H + 1) := by rw [Int.mul_add]; omega
    have h5 := Int.lt_of_mul_lt_mul_left h3 (by omega)
    have h6 := Int.lt_of_mul_lt_mul_left h4 (by omega)
    omega
  · intro h
    rw [h] at e2
    omega
/-- All with the first bits have one quotient by a greater power. -/
theorem same_quo {a H m : Int} (hH : 0 < H) (_ : 0 < m) (ha : a % H = 0) : (a + (H - 1)) / (H * m) = a / (H * m) := by
  rw [← Int.ediv_ediv_of_nonneg (by omega), ← Int.ediv_ediv_of_nonneg (by omega)]
  have e1 : (a + (H - 1)) / H = a / H := ((between hH ha).mp ⟨by omega, Int.le_refl _⟩)
  rw [e1]
theorem hiB_dvd {t t' : Nat} (h : t' ≤ t) : ∃ m : Int, 0 < m ∧ hiB t' = hiB t * m := by
  refine ⟨((2 ^ ((64 - min t' 64) - (64 - min t 64)) : Nat) : Int), by have := Nat.two_pow_pos ((64 - min t' 64) - (64 - min t 64)); omega, ?_⟩
  unfold hiB
  rw [← Int.natCast_mul, ← Nat.pow_add]
  congr 2
  omega
theorem loB_dvd {t t' : Nat} (h : t' ≤ t) : ∃ m : Int, 0 < m ∧ loB t' = loB t * m := by
  refine ⟨((2 ^ ((128 - max t' 64) - (128 - max t 64)) : Nat) : Int), by have := Nat.two_pow_pos ((128 - max t' 64) - (128 - max t 64)); omega, ?_⟩
  unfold loB
  rw [← Int.natCast_mul, ← Nat.pow_add]
  congr 2
  omega
/-- What is in a prefix: the quotients are its number's. -/
theorem hasR_prefix {b0 b1 x0 x1 : Int} {t : Nat} (h0 : b0 % hiB t = 0) (h1 : b1 % loB t = 0) (hb1 : 0 ≤ b1 ∧ b1 ≤ 18446744073709551615) (hx1 : 0 ≤ x1 ∧ x1 ≤ 18446744073709551615) :
    hasR b0 b1 (b0 + (hiB t - 1)) (b1 + (loB t - 1)) x0 x1 = decide (x0 / hiB t = b0 / hiB t ∧ x1 / loB t = b1 / loB t) := by
  have hp := hiB_pos t
  have lp := loB_pos t
  have c1 := cmpA_cases b0 b1 x0 x1
  have c2 := cmpA_cases x0 x1 (b0 + (hiB t - 1)) (b1 + (loB t - 1))
  have B0 := between (b := b0) (x := x0) (H := hiB t) (by omega) h0
  have B1 := between (b := b1) (x := x1) (H := loB t) (by omega) h1
  rcases Nat.lt_or_ge t 64 with ht | ht
  · have hl : loB t = 18446744073709551616 := by unfold loB; rw [show max t 64 = 64 by omega]; rfl
    rw [hl] at h1 B1 c2 ⊢
    have hb : b1 = 0 := by omega
    rw [hb] at B1 c1 c2 ⊢
    have e : x1 / 18446744073709551616 = 0 / 18446744073709551616 := by omega
    unfold hasR
    rw [Bool.eq_iff_iff]
    simp only [Bool.and_eq_true, decide_eq_true_eq]
    constructor
    · intro h
      exact ⟨B0.mp (by omega), e⟩
    · intro h
      have := B0.mpr h.1
      omega
  · have hl : hiB t = 1 := by unfold hiB; rw [show min t 64 = 64 by omega]; rfl
    rw [hl] at B0 c2 ⊢
    unfold hasR
    rw [Bool.eq_iff_iff]
    simp only [Bool.and_eq_true, decide_eq_true_eq]
    constructor
    · intro h
      exact ⟨B0.mp (by omega), B1.mp (by omega)⟩
    · intro h
      have := B0.mpr h.1
      have := B1.mpr h.2
      omega

theorem addrPrefixes_true (a0 a1 b0 b1 n m : Int) (w : World) (wa : (Lit.int .u64 a0).wf = true ∧ (Lit.int .u64 a1).wf = true) (wb : (Lit.int .u64 b0).wf = true ∧ (Lit.int .u64 b1).wf = true) (_ : (Lit.int .i64 n).wf = true) (_ : (Lit.int .i64 m).wf = true) :
    Calls Try.prog 4 #[.agg #[.int .u64 a0, .int .u64 a1], .agg #[.int .u64 b0, .int .u64 b1], .int .i64 n, .int .i64 m] w fun e w' => e = .returned (.bool true) ∧ Below w.heap.size w w' := by
  have w0 := bounds_u64 wa.1
  have w1 := bounds_u64 wa.2
  have v0 := bounds_u64 wb.1
  have v1 := bounds_u64 wb.2
  rcases prefP_cases a0 a1 n with h | ⟨p1, p2, p3, p4, h⟩
  · exact prefixes_refused a0 a1 b0 b1 n m ⟨w0⟩ ⟨w1⟩ h w
  · generalize ht : (n + 128 - (if is4 a0 a1 = true then 32 else 128)).toNat = t at p3 p4 h
    have hp := hiB_pos t
    have lp := loB_pos t
    have hlo : a1 + (loB t - 1) ≤ 18446744073709551615 := by
      obtain ⟨r, hr1, hr2⟩ : ∃ r : Int, 0 < r ∧ 18446744073709551616 = loB t * r := by
        obtain ⟨r, hr1, hr2⟩ := loB_dvd (t' := 0) (t := t) (by omega)
        exact ⟨r, hr1, by rw [← hr2]; rfl⟩
      have := same_quo (a := a1) (H := loB t) (m := r) (by omega) hr1 p4
      rw [← hr2] at this
      omega
    have hF : hasR a0 a1 (a0 + (hiB t - 1)) (a1 + (loB t - 1)) a0 a1 = true := by
      rw [hasR_prefix p3 p4 w1 w1]
      simp
    have hc := cmpA_cases a0 a1 (a0 + (hiB t - 1)) (a1 + (loB t - 1))
    refine prefixes_walk a0 a1 b0 b1 n m _ _ _ _ _ _ _ _ (hasR (prefP b0 b1 m).1 (prefP b0 b1 m).2.1 (prefP b0 b1 m).2.2.1 (prefP b0 b1 m).2.2.2.1 a0 a1) ⟨w0⟩ ⟨w1⟩ ⟨v0⟩ ⟨v1⟩ h hF rfl (by omega) (show Hid (prefP b0 b1 m = ((prefP b0 b1 m).1, (prefP b0 b1 m).2.1, (prefP b0 b1 m).2.2.1, (prefP b0 b1 m).2.2.2.1, (prefP b0 b1 m).2.2.2.2)) from rfl) ?_ w
    show _ ∨ _ ∨ _ ∨ _
    rcases prefP_cases b0 b1 m with g | ⟨q1, q2, q3, q4, g⟩
    · left
      rw [g]
      rfl
    · right
      rw [g]
      dsimp only
      by_cases hmn : n < m
      · left
        exact ⟨rfl, hmn⟩
      · right
        by_cases hi : is4 a0 a1 = is4 b0 b1
        · right
          refine ⟨rfl, by omega, by simp [hi], rfl, ?_⟩
          have hle : (m + 128 - (if is4 b0 b1 = true then 32 else 128)).toNat ≤ t := by rw [← ht, hi]; omega
          rw [hasR_prefix q3 q4 v1 (by omega), hasR_prefix q3 q4 v1 w1]
          generalize (m + 128 - (if is4 b0 b1 = true then 32 else 128)).toNat = t' at hle
          obtain ⟨r, hr1, hr2⟩ := hiB_dvd hle
          obtain ⟨s, hs1, hs2⟩ := loB_dvd hle
          rw [hr2, hs2, same_quo (by omega) hr1 p3, same_quo (by omega) hs1 p4]
        · left
          exact ⟨rfl, by omega, by cases h1 : is4 a0 a1 <;> cases h2 : is4 b0 b1 <;> simp_all⟩
end Go.Proofs.Ytboehjockmpejaa.Print
