/-
The law AddrOrder's walk: whatever three addresses it is called with, it returns true and leaves what was there as it was.
Conditions: none.
-/
import Derived.Test.YtboehjockmpejaaHand
namespace Go.Proofs.Ytboehjockmpejaa.Print
open Go.RowKit Go.ChangeShapes Go.Proofs.YtboehjockmpejaaW.PrintWords
attribute [local go_sem high] eqA24
set_option maxHeartbeats 800000 in
theorem order_calls (a0 a1 b0 b1 c0 c1 x y z v : Int) (hx : Hid (cmpA a0 a1 b0 b1 = x)) (hy : Hid (cmpA b0 b1 c0 c1 = y)) (hz : Hid (cmpA a0 a1 c0 c1 = z)) (hv : Hid (cmpA b0 b1 a0 a1 = v))
    (t1 : (v != wrap64 (-x)) = false) (t2 : (!(x == 0) == (a0 == b0 && a1 == b1)) = false) (t3 : Hid (x ≤ 0 → y ≤ 0 → z ≤ 0 ∧ (x = 0 ∧ y = 0 ∨ z < 0))) (w : World) :
    Calls Try.prog 3 #[.agg #[.int .u64 a0, .int .u64 a1], .agg #[.int .u64 b0, .int .u64 b1], .agg #[.int .u64 c0, .int .u64 c1]] w fun e w' => e = .returned (.bool true) ∧ Below w.heap.size w w' := by
  go_enter Try.func3, Try.ntmps3
  go_wp2_with fail
  refine (compare_val _ _ _ _ _ hx _).mono ?_
  rintro e w1 ⟨rfl, hb⟩
  have hB1 := hb
  clear hb
  obtain ⟨hc1, hf1⟩ := bcell hB1
  go_wp2_with fail
  refine (compare_val _ _ _ _ _ hy _).mono ?_
  rintro e w2 ⟨rfl, hb⟩
  have hB2 := bnext hB1 hb
  clear hb
  clear hc1 hf1 hB1
  obtain ⟨hc2, hf2⟩ := bcell hB2
  go_wp2_with fail
  refine (compare_val _ _ _ _ _ hz _).mono ?_
  rintro e w3 ⟨rfl, hb⟩
  have hB3 := bnext hB2 hb
  clear hb
  clear hc2 hf2 hB2
  obtain ⟨hc3, hf3⟩ := bcell hB3
  go_wp2_with fail
  refine (refCompare_val _ _ _ _ _ hx _).mono ?_
  rintro e w4 ⟨rfl, hb⟩
  have hB4 := bnext hB3 hb
  clear hb
  clear hc3 hf3 hB3
  obtain ⟨hc4, hf4⟩ := bcell hB4
  go_wp2_with fail
  refine (compare_val _ _ _ _ _ hv _).mono ?_
  rintro e w5 ⟨rfl, hb⟩
  have hB5 := bnext hB4 hb
  clear hb
  clear hc4 hf4 hB4
  obtain ⟨hc5, hf5⟩ := bcell hB5
  go_wp2_with fail
  all_goals
    go_ret
    refine ⟨?_, ((((Below.refl _ _).alloc (Nat.le_refl _) _).alloc (by simp) _).alloc (by simp; omega) _).trans (hB5.mono (by simp; omega))⟩
    have h3 := t3.out
    first
    | rfl
    | (simp; omega)

theorem addrOrder_true (a0 a1 b0 b1 c0 c1 : Int) (w : World) (_ : (Lit.int .u64 a0).wf = true ∧ (Lit.int .u64 a1).wf = true) (_ : (Lit.int .u64 b0).wf = true ∧ (Lit.int .u64 b1).wf = true) (_ : (Lit.int .u64 c0).wf = true ∧ (Lit.int .u64 c1).wf = true) :
    Calls Try.prog 3 #[.agg #[.int .u64 a0, .int .u64 a1], .agg #[.int .u64 b0, .int .u64 b1], .agg #[.int .u64 c0, .int .u64 c1]] w fun e w' => e = .returned (.bool true) ∧ Below w.heap.size w w' := by
  have ex := cmpA_cases a0 a1 b0 b1
  have ey := cmpA_cases b0 b1 c0 c1
  have ez := cmpA_cases a0 a1 c0 c1
  have ev := cmpA_cases b0 b1 a0 a1
  refine order_calls a0 a1 b0 b1 c0 c1 _ _ _ _ rfl rfl rfl rfl ?_ ?_ ?_ w
  · have : cmpA b0 b1 a0 a1 = wrap64 (-cmpA a0 a1 b0 b1) := by unfold wrap64; omega
    rw [← this]
    simp
  · rcases ex with ⟨h, e⟩ | ⟨h, h2, e⟩ | ⟨h, e⟩ <;> rw [e]
    · have : ¬ (a0 = b0 ∧ a1 = b1) := by omega
      simp
      omega
    · subst h
      subst h2
      simp
    · simp
      omega
  · show _ → _
    omega
end Go.Proofs.Ytboehjockmpejaa.Print
