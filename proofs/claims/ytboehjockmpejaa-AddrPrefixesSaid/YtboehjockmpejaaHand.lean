/-
Small lemmas for walks that are typed by hand: what a call that only makes memory leaves as it was.
Conditions: none.
-/
import Derived.Test.YtboehjockmpejaaCmp
import Derived.WalkKit
import Derived.BigQuiet
import Derived.Deep.QuietTactic
namespace Go.Proofs.Ytboehjockmpejaa.Print
open Go.RowKit Go.Proofs.YtboehjockmpejaaW.PrintWords

/-- All old cells and all old marks read as before. -/
theorem bcell {W w1 : World} (hb : Below W.heap.size W w1) : (∀ b o, b < W.heap.size → w1.cell? ⟨b, o, none⟩ = W.cell? ⟨b, o, none⟩) ∧ (∀ b o, b < W.heap.size → w1.frozen? ⟨b, o, none⟩ = W.frozen? ⟨b, o, none⟩) :=
  ⟨fun b o h => hb.cell (p := ⟨b, o, none⟩) h, fun b o h => hb.frozen (p := ⟨b, o, none⟩) h⟩
/-- One call more. -/
theorem bnext {W w1 w2 : World} (h : Below W.heap.size W w1) (hb : Below w1.heap.size w1 w2) : Below W.heap.size W w2 := h.trans (hb.mono h.size)
theorem ba1 (w : World) (o : Obj) : Below w.heap.size w (w.alloc o) := (Below.refl _ _).alloc (Nat.le_refl _) o
theorem ba {W w : World} (h : Below W.heap.size W w) (o : Obj) : Below W.heap.size W (w.alloc o) := h.alloc h.size o

theorem ret_bool {a b : Bool} (h : a = b) : Ending.returned (.bool a) = Ending.returned (.bool b) := by rw [h]
theorem ret_int {k : IntKind} {a b : Int} (h : a = b) : Ending.returned (.int k a) = .returned (.int k b) := by rw [h]

theorem compare_calls (a0 a1 b0 b1 : Int) (w : World) : Calls Try.prog 7 #[.agg #[.int .u64 a0, .int .u64 a1], .agg #[.int .u64 b0, .int .u64 b1]] w fun e w' => e = .returned (.int .i64 (cmpA a0 a1 b0 b1)) ∧ Below w.heap.size w w' :=
  addr_Compare.calls 3 a0 a1 b0 b1 _ w (compare_is 0 a0 a1 b0 b1)
theorem refCompare_calls (a0 a1 b0 b1 : Int) (w : World) : Calls Try.prog 8 #[.agg #[.int .u64 a0, .int .u64 a1], .agg #[.int .u64 b0, .int .u64 b1]] w fun e w' => e = .returned (.int .i64 (cmpA a0 a1 b0 b1)) ∧ Below w.heap.size w w' :=
  sallyportref03_Compare.calls 1 a0 a1 b0 b1 _ w (refCompare_is 0 a0 a1 b0 b1)
theorem compare_val (a0 a1 b0 b1 x : Int) (h : Hid (cmpA a0 a1 b0 b1 = x)) (w : World) : Calls Try.prog 7 #[.agg #[.int .u64 a0, .int .u64 a1], .agg #[.int .u64 b0, .int .u64 b1]] w fun e w' => e = .returned (.int .i64 x) ∧ Below w.heap.size w w' := by
  have := compare_calls a0 a1 b0 b1 w
  rwa [h.out] at this
theorem refCompare_val (a0 a1 b0 b1 x : Int) (h : Hid (cmpA a0 a1 b0 b1 = x)) (w : World) : Calls Try.prog 8 #[.agg #[.int .u64 a0, .int .u64 a1], .agg #[.int .u64 b0, .int .u64 b1]] w fun e w' => e = .returned (.int .i64 x) ∧ Below w.heap.size w w' := by
  have := refCompare_calls a0 a1 b0 b1 w
  rwa [h.out] at this
end Go.Proofs.Ytboehjockmpejaa.Print
