/-
The law AddrSteps's walk: whatever two addresses it is called with, it returns true and leaves what was there as it was.
Conditions: numbers of 64 bits.
-/
import Derived.Test.YtboehjockmpejaaNext
namespace Go.Proofs.Ytboehjockmpejaa.Print
open Go.RowKit Go.ChangeShapes Go.Proofs.YtboehjockmpejaaW.PrintWords
attribute [local go_sem high] eqA24

theorem u64_top {n : Int} (h : (Lit.int .u64 n).wf = true) : 0 ≤ n ∧ n ≤ top := bounds_u64 h

set_option maxHeartbeats 800000 in
theorem steps_last (a0 a1 b0 b1 : Int) (w0 : 0 ≤ a0 ∧ a0 ≤ top) (w1 : 0 ≤ a1 ∧ a1 ≤ top) (hn : Hid (nextA a0 a1 = (0, 0, false))) (e0 : (a0 == 18446744073709551615 && a1 == 18446744073709551615) = true) (w : World) :
    Calls Try.prog 5 #[.agg #[.int .u64 a0, .int .u64 a1], .agg #[.int .u64 b0, .int .u64 b1]] w fun e w' => e = .returned (.bool true) ∧ Below w.heap.size w w' := by
  have H0 := Aside0.mk w0
  have H1 := Aside0.mk w1
  clear w0 w1
  go_enter Try.func5, Try.ntmps5
  go_wp2_with fail
  refine (next_val _ _ _ _ _ H0.out H1.out hn _).mono ?_
  rintro e w1 ⟨rfl, hb⟩
  have hz0 : w.heap.size < w1.heap.size := by have := hb.size; simp at this; omega
  have hz1 : w.heap.size + 1 < w1.heap.size := by have := hb.size; simp at this; omega
  obtain ⟨hc1, hf1⟩ := bcell hb
  go_wp2_with fail
  go_ret
  exact ⟨rfl, ba (bnext (ba (ba1 _ _) _) hb) _⟩

set_option maxHeartbeats 800000 in
theorem steps_walk (a0 a1 b0 b1 n0 n1 x y : Int) (w0 : 0 ≤ a0 ∧ a0 ≤ top) (w1 : 0 ≤ a1 ∧ a1 ≤ top) (v0 : 0 ≤ n0 ∧ n0 ≤ top) (v1 : 0 ≤ n1 ∧ n1 ≤ top) (hn : Hid (nextA a0 a1 = (n0, n1, true))) (hp : Hid (prevA n0 n1 = (a0, a1, true)))
    (c1 : Hid (cmpA a0 a1 n0 n1 = -1)) (c2 : Hid (cmpA n0 n1 a0 a1 = 1)) (c3 : Hid (cmpA a0 a1 a0 a1 = 0)) (c4 : Hid (cmpA a0 a1 b0 b1 = x)) (c5 : Hid (cmpA b0 b1 n0 n1 = y)) (hxy : Hid (¬ (x < 0 ∧ y < 0))) (w : World) :
    Calls Try.prog 5 #[.agg #[.int .u64 a0, .int .u64 a1], .agg #[.int .u64 b0, .int .u64 b1]] w fun e w' => e = .returned (.bool true) ∧ Below w.heap.size w w' := by
  have H0 := Aside0.mk w0
  have H1 := Aside0.mk w1
  have V0 := Aside0.mk v0
  have V1 := Aside0.mk v1
  clear w0 w1 v0 v1
  go_enter Try.func5, Try.ntmps5
  go_wp2_with fail
  refine (next_val _ _ _ _ _ H0.out H1.out hn _).mono ?_
  rintro e w1 ⟨rfl, hb⟩
  have hz0 : w.heap.size < w1.heap.size := by have := hb.size; simp at this; omega
  have hz1 : w.heap.size + 1 < w1.heap.size := by have := hb.size; simp at this; omega
  obtain ⟨hc1, hf1⟩ := bcell hb
  go_wp2_with fail
  refine (prev_val _ _ _ _ _ V0.out V1.out hp _).mono ?_
  rintro e w2 ⟨rfl, hb2⟩
  have hz2 : w1.heap.size < w2.heap.size := by have := hb2.size; simp at this; omega
  have hz3 : w.heap.size < w2.heap.size := by omega
  have hz4 : w.heap.size + 1 < w2.heap.size := by omega
  obtain ⟨hc2, hf2⟩ := bcell hb2
  go_wp2_with fail
  have HB := bnext (ba (bnext (ba (ba1 _ _) _) hb) _) hb2
  refine (compare_val _ _ _ _ _ c1 _).mono ?_
  rintro e w3 ⟨rfl, hb⟩
  have hB3 := hb
  clear hb
  obtain ⟨hc3, hf3⟩ := bcell hB3
  go_wp2_with fail
  refine (compare_val _ _ _ _ _ c2 _).mono ?_
  rintro e w4 ⟨rfl, hb⟩
  have hB4 := bnext hB3 hb
  clear hb
  clear hc3 hf3 hB3
  obtain ⟨hc4, hf4⟩ := bcell hB4
  go_wp2_with fail
  refine (compare_val _ _ _ _ _ c3 _).mono ?_
  rintro e w5 ⟨rfl, hb⟩
  have hB5 := bnext hB4 hb
  clear hb
  clear hc4 hf4 hB4
  obtain ⟨hc5, hf5⟩ := bcell hB5
  go_wp2_with fail
  refine (compare_val _ _ _ _ _ c4 _).mono ?_
  rintro e w6 ⟨rfl, hb⟩
  have hB6 := bnext hB5 hb
  clear hb
  clear hc5 hf5 hB5
  obtain ⟨hc6, hf6⟩ := bcell hB6
  by_cases hx : x < 0
  · have hy : ¬ y < 0 := fun h => hxy.out ⟨hx, h⟩
    go_wp2_with fail
    refine (compare_val _ _ _ _ _ c5 _).mono ?_
    rintro e w7 ⟨rfl, hb⟩
    have hB7 := bnext hB6 hb
    clear hb
    clear hc6 hf6 hB6
    obtain ⟨hc7, hf7⟩ := bcell hB7
    go_wp2_with fail
    go_ret
    exact ⟨ret_bool (a := !decide (y < 0)) (by simp; omega), bnext (ba HB _) hB7⟩
  · go_wp2_with fail
    go_ret
    exact ⟨rfl, bnext (ba HB _) hB6⟩

theorem addrSteps_true (a0 a1 b0 b1 : Int) (w : World) (wa : (Lit.int .u64 a0).wf = true ∧ (Lit.int .u64 a1).wf = true) (wb : (Lit.int .u64 b0).wf = true ∧ (Lit.int .u64 b1).wf = true) :
    Calls Try.prog 5 #[.agg #[.int .u64 a0, .int .u64 a1], .agg #[.int .u64 b0, .int .u64 b1]] w fun e w' => e = .returned (.bool true) ∧ Below w.heap.size w w' := by
  have h0 := u64_top wa.1
  have h1 := u64_top wa.2
  have h2 := u64_top wb.1
  have h3 := u64_top wb.2
  by_cases e1 : a1 = top
  · by_cases e0 : a0 = top
    · refine steps_last a0 a1 b0 b1 h0 h1 (by show _ = _; unfold nextA; rw [if_pos e1, if_pos e0]) ?_ w
      subst e1
      subst e0
      rfl
    · have c1 := cmpA_cases a0 a1 (a0 + 1) 0
      have c2 := cmpA_cases (a0 + 1) 0 a0 a1
      have c3 := cmpA_cases a0 a1 a0 a1
      have c4 := cmpA_cases a0 a1 b0 b1
      have c5 := cmpA_cases b0 b1 (a0 + 1) 0
      refine steps_walk a0 a1 b0 b1 (a0 + 1) 0 _ _ h0 h1 (by omega) (by unfold top; omega) (by show _ = _; unfold nextA; rw [if_pos e1, if_neg e0]) ?_ ?_ ?_ ?_ rfl rfl ?_ w
      · show _ = _
        unfold prevA
        rw [if_pos rfl, if_neg (by omega), e1]
        simp
      · show _ = _
        omega
      · show _ = _
        omega
      · show _ = _
        omega
      · show ¬ _
        omega
  · have c1 := cmpA_cases a0 a1 a0 (a1 + 1)
    have c2 := cmpA_cases a0 (a1 + 1) a0 a1
    have c3 := cmpA_cases a0 a1 a0 a1
    have c4 := cmpA_cases a0 a1 b0 b1
    have c5 := cmpA_cases b0 b1 a0 (a1 + 1)
    refine steps_walk a0 a1 b0 b1 a0 (a1 + 1) _ _ h0 h1 h0 (by omega) (by show _ = _; unfold nextA; rw [if_neg e1]) ?_ ?_ ?_ ?_ rfl rfl ?_ w
    · show _ = _
      unfold prevA
      rw [if_neg (by omega)]
      simp
    · show _ = _
      omega
    · show _ = _
      omega
    · show _ = _
      omega
    · show ¬ _
      omega
end Go.Proofs.Ytboehjockmpejaa.Print
