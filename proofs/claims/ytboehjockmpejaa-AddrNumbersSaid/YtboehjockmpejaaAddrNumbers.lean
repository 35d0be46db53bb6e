/-
The law AddrNumbers's walk: whatever two addresses and two numbers it is called with, it returns true and leaves what was there as it was.
Conditions: numbers of their kinds.
-/
import Derived.Test.YtboehjockmpejaaNumbers
namespace Go.Proofs.Ytboehjockmpejaa.Print
open Go.RowKit Go.ChangeShapes Go.Proofs.YtboehjockmpejaaW.PrintWords
attribute [local go_sem high] eqA24

set_option maxHeartbeats 3200000 in
theorem numbers_walk (a0 a1 b0 b1 n m n0 n1 p0 p1 : Int) (nok pok : Bool) (W0 : Aside0 (0 ≤ a0 ∧ a0 ≤ top)) (W1 : Aside0 (0 ≤ a1 ∧ a1 ≤ top)) (hn : Hid (nextA a0 a1 = (n0, n1, nok))) (hp : Hid (prevA a0 a1 = (p0, p1, pok))) (hm : Aside0 (0 ≤ m ∧ m ≤ 4294967295)) (w : World) :
    Calls Try.prog 6 #[.agg #[.int .u64 a0, .int .u64 a1], .agg #[.int .u64 b0, .int .u64 b1], .int .i64 n, .int .u32 m] w fun e w' => e = .returned (.bool true) ∧ Below w.heap.size w w' := by
  go_enter Try.func6, Try.ntmps6
  go_wp2_with fail
  refine (next_val _ _ _ _ _ W0.out W1.out hn _).mono ?_
  rintro e w1 ⟨rfl, hb⟩
  obtain ⟨z1_0, z1_1⟩ : w.heap.size < w1.heap.size ∧ w.heap.size + 1 < w1.heap.size := by have := hb.size; simp at this; omega
  obtain ⟨c1, f1⟩ := bcell hb
  have HB1 := bnext (ba (ba1 _ _) _) hb
  clear hb
  go_wp2_with fail
  refine (refNext_val _ _ _ _ _ W0.out W1.out hn _).mono ?_
  rintro e w2 ⟨rfl, hb⟩
  obtain ⟨z2_0, z2_1, z2_2⟩ : w.heap.size < w2.heap.size ∧ w.heap.size + 1 < w2.heap.size ∧ w1.heap.size < w2.heap.size := by have := hb.size; simp at this; omega
  obtain ⟨c2, f2⟩ := bcell hb
  have HB2 := bnext (ba HB1 _) hb
  clear hb
  go_wp2_with fail
  refine (prev_val _ _ _ _ _ W0.out W1.out hp _).mono ?_
  rintro e w3 ⟨rfl, hb⟩
  obtain ⟨z3_0, z3_1, z3_2, z3_3⟩ : w.heap.size < w3.heap.size ∧ w.heap.size + 1 < w3.heap.size ∧ w1.heap.size < w3.heap.size ∧ w2.heap.size < w3.heap.size := by have := hb.size; simp at this; omega
  obtain ⟨c3, f3⟩ := bcell hb
  have HB3 := bnext (ba HB2 _) hb
  clear hb
  go_wp2_with fail
  refine (refPrev_val _ _ _ _ _ W0.out W1.out hp _).mono ?_
  rintro e w4 ⟨rfl, hb⟩
  obtain ⟨z4_0, z4_1, z4_2, z4_3, z4_4⟩ : w.heap.size < w4.heap.size ∧ w.heap.size + 1 < w4.heap.size ∧ w1.heap.size < w4.heap.size ∧ w2.heap.size < w4.heap.size ∧ w3.heap.size < w4.heap.size := by have := hb.size; simp at this; omega
  obtain ⟨c4, f4⟩ := bcell hb
  have HB4 := bnext (ba HB3 _) hb
  clear hb
  go_wp2_with fail
  have HW := ba HB4 (Obj.cells #[Value.int IntKind.u64 p0, Value.int IntKind.u64 p1] 24)
  have k00 : (w4.alloc (Obj.cells #[Value.int IntKind.u64 p0, Value.int IntKind.u64 p1] 24)).cell? ⟨w.heap.size, 0, none⟩ = some (.int .u64 a0) := by go_simp
  have k01 : (w4.alloc (Obj.cells #[Value.int IntKind.u64 p0, Value.int IntKind.u64 p1] 24)).cell? ⟨w.heap.size, 1, none⟩ = some (.int .u64 a1) := by go_simp
  have k10 : (w4.alloc (Obj.cells #[Value.int IntKind.u64 p0, Value.int IntKind.u64 p1] 24)).cell? ⟨w.heap.size + 1, 0, none⟩ = some (.int .u64 b0) := by go_simp
  have k11 : (w4.alloc (Obj.cells #[Value.int IntKind.u64 p0, Value.int IntKind.u64 p1] 24)).cell? ⟨w.heap.size + 1, 1, none⟩ = some (.int .u64 b1) := by go_simp
  have k20 : (w4.alloc (Obj.cells #[Value.int IntKind.u64 p0, Value.int IntKind.u64 p1] 24)).cell? ⟨w1.heap.size, 0, none⟩ = some (.int .u64 n0) := by go_simp
  have k21 : (w4.alloc (Obj.cells #[Value.int IntKind.u64 p0, Value.int IntKind.u64 p1] 24)).cell? ⟨w1.heap.size, 1, none⟩ = some (.int .u64 n1) := by go_simp
  have k30 : (w4.alloc (Obj.cells #[Value.int IntKind.u64 p0, Value.int IntKind.u64 p1] 24)).cell? ⟨w2.heap.size, 0, none⟩ = some (.int .u64 n0) := by go_simp
  have k31 : (w4.alloc (Obj.cells #[Value.int IntKind.u64 p0, Value.int IntKind.u64 p1] 24)).cell? ⟨w2.heap.size, 1, none⟩ = some (.int .u64 n1) := by go_simp
  have k40 : (w4.alloc (Obj.cells #[Value.int IntKind.u64 p0, Value.int IntKind.u64 p1] 24)).cell? ⟨w3.heap.size, 0, none⟩ = some (.int .u64 p0) := by go_simp
  have k41 : (w4.alloc (Obj.cells #[Value.int IntKind.u64 p0, Value.int IntKind.u64 p1] 24)).cell? ⟨w3.heap.size, 1, none⟩ = some (.int .u64 p1) := by go_simp
  have k50 : (w4.alloc (Obj.cells #[Value.int IntKind.u64 p0, Value.int IntKind.u64 p1] 24)).cell? ⟨w4.heap.size, 0, none⟩ = some (.int .u64 p0) := by go_simp
  have k51 : (w4.alloc (Obj.cells #[Value.int IntKind.u64 p0, Value.int IntKind.u64 p1] 24)).cell? ⟨w4.heap.size, 1, none⟩ = some (.int .u64 p1) := by go_simp
  generalize w4.alloc (Obj.cells #[Value.int IntKind.u64 p0, Value.int IntKind.u64 p1] 24) = w5 at *
  clear c1 f1 c2 f2 c3 f3 c4 f4 HB1 HB2 HB3 HB4
  go_region_held3 (fun w' => Below w.heap.size w w' ∧ w'.cell? ⟨w.heap.size, 0, none⟩ = some (.int .u64 a0) ∧ w'.cell? ⟨w.heap.size, 1, none⟩ = some (.int .u64 a1) ∧ w'.cell? ⟨w.heap.size + 1, 0, none⟩ = some (.int .u64 b0) ∧ w'.cell? ⟨w.heap.size + 1, 1, none⟩ = some (.int .u64 b1) ∧ w'.cell? ⟨w1.heap.size, 0, none⟩ = some (.int .u64 n0) ∧ w'.cell? ⟨w1.heap.size, 1, none⟩ = some (.int .u64 n1) ∧ w'.cell? ⟨w2.heap.size, 0, none⟩ = some (.int .u64 n0) ∧ w'.cell? ⟨w2.heap.size, 1, none⟩ = some (.int .u64 n1) ∧ w'.cell? ⟨w3.heap.size, 0, none⟩ = some (.int .u64 p0) ∧ w'.cell? ⟨w3.heap.size, 1, none⟩ = some (.int .u64 p1) ∧ w'.cell? ⟨w4.heap.size, 0, none⟩ = some (.int .u64 p0) ∧ w'.cell? ⟨w4.heap.size, 1, none⟩ = some (.int .u64 p1)) (first | ((repeat' apply And.intro) <;> first | (refine Below.drew ?_; assumption) | go_keep) | (go_split_ands; refine ⟨bnext (by assumption) (by assumption), ?_⟩; (repeat' apply And.intro) <;> (refine pw_cell_below (by assumption) ?_; assumption)))
    (first | (go_at_call 12; refine (is4_calls _ _ _).mono ?_; rintro e w' ⟨rfl, hb⟩) | (go_at_call 17; refine (refIs4_calls _ _ _).mono ?_; rintro e w' ⟨rfl, hb⟩) | (go_at_call 18; refine (of4_calls _ hm.out.1 hm.out.2 _).mono ?_; rintro e w' ⟨rfl, hb⟩) | (go_at_call 19; refine (refOf4_calls _ hm.out.1 hm.out.2 _).mono ?_; rintro e w' ⟨rfl, hb⟩) | (go_at_call 20; refine (of_calls _ _).mono ?_; rintro e w' ⟨rfl, hb⟩) | (go_at_call 21; refine (refOf_calls _ _).mono ?_; rintro e w' ⟨rfl, hb⟩) | (go_at_call 7; refine (compare_calls _ _ _ _ _).mono ?_; rintro e w' ⟨rfl, hb⟩) | (go_at_call 8; refine (refCompare_calls _ _ _ _ _).mono ?_; rintro e w' ⟨rfl, hb⟩))
  go_wp2_with fail
  go_ret
  refine ⟨by simp, ?_⟩
  exact And.left (by assumption)

theorem addrNumbers_true (a0 a1 b0 b1 n m : Int) (w : World) (wa : (Lit.int .u64 a0).wf = true ∧ (Lit.int .u64 a1).wf = true) (_ : (Lit.int .u64 b0).wf = true ∧ (Lit.int .u64 b1).wf = true) (_ : (Lit.int .i64 n).wf = true) (wm : (Lit.int .u32 m).wf = true) :
    Calls Try.prog 6 #[.agg #[.int .u64 a0, .int .u64 a1], .agg #[.int .u64 b0, .int .u64 b1], .int .i64 n, .int .u32 m] w fun e w' => e = .returned (.bool true) ∧ Below w.heap.size w w' :=
  numbers_walk a0 a1 b0 b1 n m _ _ _ _ _ _ ⟨bounds_u64 wa.1⟩ ⟨bounds_u64 wa.2⟩ (show Hid (nextA a0 a1 = ((nextA a0 a1).1, (nextA a0 a1).2.1, (nextA a0 a1).2.2)) from rfl) (show Hid (prevA a0 a1 = ((prevA a0 a1).1, (prevA a0 a1).2.1, (prevA a0 a1).2.2)) from rfl) ⟨bounds_u32 wm⟩ w
end Go.Proofs.Ytboehjockmpejaa.Print
