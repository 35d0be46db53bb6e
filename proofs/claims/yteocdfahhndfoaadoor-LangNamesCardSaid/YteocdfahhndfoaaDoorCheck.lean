/-
The walk of lang.Check: the first of the seven checks' errors, and the default's, if there are not too many of a kind.
Conditions: the seven checks' contracts; few enough of each kind.
-/
import Derived.Test.YteocdfahhndfoaaDoorKnows
import Derived.Deep.RegionHeld3
namespace Go.Proofs.YteocdfahhndfoaaDoor.Print
open Go.RowKit Go.Proofs.YteocdfahhndfoaaDoorW.PrintWords Go.Proofs.YteocdfahhndfoaaDoor.Plain
theorem firstL_append (a b : List Int) : firstL (a ++ b) = if firstL a ≠ 0 then firstL a else firstL b := by
  induction a with
  | nil => rfl
  | cons x l ih =>
    simp only [List.cons_append, firstL, ih]
    by_cases h : x = 0
    · simp [h]
    · simp [h]
/-- What is wrong with the default: 1, if it is neither. -/
def defErr (df : Int) : Int := if ((df != 1) && (df != 2)) = true then 1 else 0
set_option maxHeartbeats 4000000 in
set_option maxRecDepth 8192 in
theorem check_calls (A0 A1 A2 A3 A4 A5 A6 : Option Addr) (n0 n1 n2 n3 n4 n5 n6 c0 c1 c2 c3 c4 c5 c6 : Nat) (df e0 e1 e2 e3 e4 e5 e6 : Int) (w : World)
    (l0 : n0 ≤ 8) (l1 : n1 ≤ 32) (l2 : n2 ≤ 32) (l3 : n3 ≤ 16) (l4 : n4 ≤ 16) (l5 : n5 ≤ 16) (l6 : n6 ≤ 48)
    (H0 : ∀ W, Below w.heap.size w W → Calls Tryd.prog 6 #[.agg #[.slice A0 n0 c0, .slice A1 n1 c1, .slice A2 n2 c2, .slice A3 n3 c3, .slice A4 n4 c4, .slice A5 n5 c5, .slice A6 n6 c6, .int .i64 df]] W fun e w' => e = .returned (.int .i64 e0) ∧ Below W.heap.size W w')
    (H1 : ∀ W, Below w.heap.size w W → Calls Tryd.prog 7 #[.agg #[.slice A0 n0 c0, .slice A1 n1 c1, .slice A2 n2 c2, .slice A3 n3 c3, .slice A4 n4 c4, .slice A5 n5 c5, .slice A6 n6 c6, .int .i64 df]] W fun e w' => e = .returned (.int .i64 e1) ∧ Below W.heap.size W w')
    (H2 : ∀ W, Below w.heap.size w W → Calls Tryd.prog 8 #[.agg #[.slice A0 n0 c0, .slice A1 n1 c1, .slice A2 n2 c2, .slice A3 n3 c3, .slice A4 n4 c4, .slice A5 n5 c5, .slice A6 n6 c6, .int .i64 df]] W fun e w' => e = .returned (.int .i64 e2) ∧ Below W.heap.size W w')
    (H3 : ∀ W, Below w.heap.size w W → Calls Tryd.prog 9 #[.agg #[.slice A0 n0 c0, .slice A1 n1 c1, .slice A2 n2 c2, .slice A3 n3 c3, .slice A4 n4 c4, .slice A5 n5 c5, .slice A6 n6 c6, .int .i64 df]] W fun e w' => e = .returned (.int .i64 e3) ∧ Below W.heap.size W w')
    (H4 : ∀ W, Below w.heap.size w W → Calls Tryd.prog 10 #[.agg #[.slice A0 n0 c0, .slice A1 n1 c1, .slice A2 n2 c2, .slice A3 n3 c3, .slice A4 n4 c4, .slice A5 n5 c5, .slice A6 n6 c6, .int .i64 df]] W fun e w' => e = .returned (.int .i64 e4) ∧ Below W.heap.size W w')
    (H5 : ∀ W, Below w.heap.size w W → Calls Tryd.prog 11 #[.agg #[.slice A0 n0 c0, .slice A1 n1 c1, .slice A2 n2 c2, .slice A3 n3 c3, .slice A4 n4 c4, .slice A5 n5 c5, .slice A6 n6 c6, .int .i64 df]] W fun e w' => e = .returned (.int .i64 e5) ∧ Below W.heap.size W w')
    (H6 : ∀ W, Below w.heap.size w W → Calls Tryd.prog 12 #[.agg #[.slice A0 n0 c0, .slice A1 n1 c1, .slice A2 n2 c2, .slice A3 n3 c3, .slice A4 n4 c4, .slice A5 n5 c5, .slice A6 n6 c6, .int .i64 df]] W fun e w' => e = .returned (.int .i64 e6) ∧ Below W.heap.size W w') :
    Calls Tryd.prog 4 #[.agg #[.slice A0 n0 c0, .slice A1 n1 c1, .slice A2 n2 c2, .slice A3 n3 c3, .slice A4 n4 c4, .slice A5 n5 c5, .slice A6 n6 c6, .int .i64 df]] w fun e w' => e = .returned (.int .i64 (firstL [e0, e1, e2, e3, e4, e5, e6, defErr df])) ∧ Below w.heap.size w w' := by
  have G0 := Aside0.mk H0
  have G1 := Aside0.mk H1
  have G2 := Aside0.mk H2
  have G3 := Aside0.mk H3
  have G4 := Aside0.mk H4
  have G5 := Aside0.mk H5
  have G6 := Aside0.mk H6
  clear H0 H1 H2 H3 H4 H5 H6
  have HF : Aside0 (firstL [e0, e1, e2, e3, e4, e5, e6, defErr df] = if firstL [e0, e1, e2, e3, e4, e5, e6] ≠ 0 then firstL [e0, e1, e2, e3, e4, e5, e6] else defErr df) := ⟨by
    have := firstL_append [e0, e1, e2, e3, e4, e5, e6] [defErr df]
    rw [show firstL [defErr df] = defErr df by
      by_cases h : defErr df = 0
      · rw [firstL, if_neg (by simpa using h), h]
        rfl
      · rw [firstL, if_pos h]] at this
    exact this⟩
  have ix0 : ∀ w, (Instr.index 39 (.agg #[.func (.func 6) #[] #[], .func (.func 7) #[] #[], .func (.func 8) #[] #[], .func (.func 9) #[] #[], .func (.func 10) #[] #[], .func (.func 11) #[] #[], .func (.func 12) #[] #[]]) (.int .i64 0)).run Tryd.prog w = .ok (.func (.func 6) #[] #[]) w := fun _ => by kernel_rfl
  have ix1 : ∀ w, (Instr.index 39 (.agg #[.func (.func 6) #[] #[], .func (.func 7) #[] #[], .func (.func 8) #[] #[], .func (.func 9) #[] #[], .func (.func 10) #[] #[], .func (.func 11) #[] #[], .func (.func 12) #[] #[]]) (.int .i64 1)).run Tryd.prog w = .ok (.func (.func 7) #[] #[]) w := fun _ => by kernel_rfl
  have ix2 : ∀ w, (Instr.index 39 (.agg #[.func (.func 6) #[] #[], .func (.func 7) #[] #[], .func (.func 8) #[] #[], .func (.func 9) #[] #[], .func (.func 10) #[] #[], .func (.func 11) #[] #[], .func (.func 12) #[] #[]]) (.int .i64 2)).run Tryd.prog w = .ok (.func (.func 8) #[] #[]) w := fun _ => by kernel_rfl
  have ix3 : ∀ w, (Instr.index 39 (.agg #[.func (.func 6) #[] #[], .func (.func 7) #[] #[], .func (.func 8) #[] #[], .func (.func 9) #[] #[], .func (.func 10) #[] #[], .func (.func 11) #[] #[], .func (.func 12) #[] #[]]) (.int .i64 3)).run Tryd.prog w = .ok (.func (.func 9) #[] #[]) w := fun _ => by kernel_rfl
  have ix4 : ∀ w, (Instr.index 39 (.agg #[.func (.func 6) #[] #[], .func (.func 7) #[] #[], .func (.func 8) #[] #[], .func (.func 9) #[] #[], .func (.func 10) #[] #[], .func (.func 11) #[] #[], .func (.func 12) #[] #[]]) (.int .i64 4)).run Tryd.prog w = .ok (.func (.func 10) #[] #[]) w := fun _ => by kernel_rfl
  have ix5 : ∀ w, (Instr.index 39 (.agg #[.func (.func 6) #[] #[], .func (.func 7) #[] #[], .func (.func 8) #[] #[], .func (.func 9) #[] #[], .func (.func 10) #[] #[], .func (.func 11) #[] #[], .func (.func 12) #[] #[]]) (.int .i64 5)).run Tryd.prog w = .ok (.func (.func 11) #[] #[]) w := fun _ => by kernel_rfl
  have ix6 : ∀ w, (Instr.index 39 (.agg #[.func (.func 6) #[] #[], .func (.func 7) #[] #[], .func (.func 8) #[] #[], .func (.func 9) #[] #[], .func (.func 10) #[] #[], .func (.func 11) #[] #[], .func (.func 12) #[] #[]]) (.int .i64 6)).run Tryd.prog w = .ok (.func (.func 12) #[] #[]) w := fun _ => by kernel_rfl
  go_enter Tryd.func4, Tryd.ntmps4
  go_wp2_with fail
  have HB0 : Below w.heap.size w (w.alloc (Obj.cells #[.slice A0 n0 c0, .slice A1 n1 c1, .slice A2 n2 c2, .slice A3 n3 c3, .slice A4 n4 c4, .slice A5 n5 c5, .slice A6 n6 c6, .int .i64 df] 30)) := (Below.refl _ _).alloc (Nat.le_refl _) _
  have q0 : (w.alloc (Obj.cells #[.slice A0 n0 c0, .slice A1 n1 c1, .slice A2 n2 c2, .slice A3 n3 c3, .slice A4 n4 c4, .slice A5 n5 c5, .slice A6 n6 c6, .int .i64 df] 30)).cell? ⟨w.heap.size, 0, none⟩ = some (.slice A0 n0 c0) := by go_simp
  have q1 : (w.alloc (Obj.cells #[.slice A0 n0 c0, .slice A1 n1 c1, .slice A2 n2 c2, .slice A3 n3 c3, .slice A4 n4 c4, .slice A5 n5 c5, .slice A6 n6 c6, .int .i64 df] 30)).cell? ⟨w.heap.size, 1, none⟩ = some (.slice A1 n1 c1) := by go_simp
  have q2 : (w.alloc (Obj.cells #[.slice A0 n0 c0, .slice A1 n1 c1, .slice A2 n2 c2, .slice A3 n3 c3, .slice A4 n4 c4, .slice A5 n5 c5, .slice A6 n6 c6, .int .i64 df] 30)).cell? ⟨w.heap.size, 2, none⟩ = some (.slice A2 n2 c2) := by go_simp
  have q3 : (w.alloc (Obj.cells #[.slice A0 n0 c0, .slice A1 n1 c1, .slice A2 n2 c2, .slice A3 n3 c3, .slice A4 n4 c4, .slice A5 n5 c5, .slice A6 n6 c6, .int .i64 df] 30)).cell? ⟨w.heap.size, 3, none⟩ = some (.slice A3 n3 c3) := by go_simp
  have q4 : (w.alloc (Obj.cells #[.slice A0 n0 c0, .slice A1 n1 c1, .slice A2 n2 c2, .slice A3 n3 c3, .slice A4 n4 c4, .slice A5 n5 c5, .slice A6 n6 c6, .int .i64 df] 30)).cell? ⟨w.heap.size, 4, none⟩ = some (.slice A4 n4 c4) := by go_simp
  have q5 : (w.alloc (Obj.cells #[.slice A0 n0 c0, .slice A1 n1 c1, .slice A2 n2 c2, .slice A3 n3 c3, .slice A4 n4 c4, .slice A5 n5 c5, .slice A6 n6 c6, .int .i64 df] 30)).cell? ⟨w.heap.size, 5, none⟩ = some (.slice A5 n5 c5) := by go_simp
  have q6 : (w.alloc (Obj.cells #[.slice A0 n0 c0, .slice A1 n1 c1, .slice A2 n2 c2, .slice A3 n3 c3, .slice A4 n4 c4, .slice A5 n5 c5, .slice A6 n6 c6, .int .i64 df] 30)).cell? ⟨w.heap.size, 6, none⟩ = some (.slice A6 n6 c6) := by go_simp
  have q7 : (w.alloc (Obj.cells #[.slice A0 n0 c0, .slice A1 n1 c1, .slice A2 n2 c2, .slice A3 n3 c3, .slice A4 n4 c4, .slice A5 n5 c5, .slice A6 n6 c6, .int .i64 df] 30)).cell? ⟨w.heap.size, 7, none⟩ = some (.int .i64 df) := by go_simp
  have hz0 : w.heap.size < (w.alloc (Obj.cells #[.slice A0 n0 c0, .slice A1 n1 c1, .slice A2 n2 c2, .slice A3 n3 c3, .slice A4 n4 c4, .slice A5 n5 c5, .slice A6 n6 c6, .int .i64 df] 30)).heap.size := by simp
  generalize (w.alloc (Obj.cells #[.slice A0 n0 c0, .slice A1 n1 c1, .slice A2 n2 c2, .slice A3 n3 c3, .slice A4 n4 c4, .slice A5 n5 c5, .slice A6 n6 c6, .int .i64 df] 30)) = wa at *
  go_loopg [4, 5, 47] 7 (fun gg _ _ s47 wr => ∃ k : Nat, k ≤ 7 ∧ 7 - k ≤ gg ∧ s47 = .int .i64 k ∧ Aside0 (Below w.heap.size w wr) ∧ w.heap.size < wr.heap.size ∧ Aside0 (firstL [e0, e1, e2, e3, e4, e5, e6] = firstL ([e0, e1, e2, e3, e4, e5, e6].drop k)) ∧ wr.cell? ⟨w.heap.size, 0, none⟩ = some (.slice A0 n0 c0) ∧ wr.cell? ⟨w.heap.size, 1, none⟩ = some (.slice A1 n1 c1) ∧ wr.cell? ⟨w.heap.size, 2, none⟩ = some (.slice A2 n2 c2) ∧ wr.cell? ⟨w.heap.size, 3, none⟩ = some (.slice A3 n3 c3) ∧ wr.cell? ⟨w.heap.size, 4, none⟩ = some (.slice A4 n4 c4) ∧ wr.cell? ⟨w.heap.size, 5, none⟩ = some (.slice A5 n5 c5) ∧ wr.cell? ⟨w.heap.size, 6, none⟩ = some (.slice A6 n6 c6) ∧ wr.cell? ⟨w.heap.size, 7, none⟩ = some (.int .i64 df))
  case atStart => exact ⟨0, by omega, by omega, rfl, ⟨HB0⟩, hz0, ⟨rfl⟩, q0, q1, q2, q3, q4, q5, q6, q7⟩
  case round =>
    clear q0 q1 q2 q3 q4 q5 q6 q7 hz0 HB0
    obtain ⟨k, h1, hg, rfl, BW, hz, HX, q0, q1, q2, q3, q4, q5, q6, q7⟩ := hrel
    obtain rfl | rfl | rfl | rfl | rfl | rfl | rfl | rfl : k = 0 ∨ k = 1 ∨ k = 2 ∨ k = 3 ∨ k = 4 ∨ k = 5 ∨ k = 6 ∨ k = 7 := by omega
    · by_cases he : e0 = 0
      · have Hn : Aside0 (firstL [e0, e1, e2, e3, e4, e5, e6] = firstL ([e0, e1, e2, e3, e4, e5, e6].drop 1)) := ⟨by rw [HX.out]; simp [firstL, he]⟩
        subst he
        clear HX HF
        go_wp2_with fail
        refine (G0.out _ BW.out).mono ?_
        rintro e w1 ⟨rfl, hb⟩
        have HB1 : Below w.heap.size w w1 := bthen BW.out hb
        have p0 : w1.cell? ⟨w.heap.size, 0, none⟩ = some (.slice A0 n0 c0) := pw_cell_below hb q0
        have p1 : w1.cell? ⟨w.heap.size, 1, none⟩ = some (.slice A1 n1 c1) := pw_cell_below hb q1
        have p2 : w1.cell? ⟨w.heap.size, 2, none⟩ = some (.slice A2 n2 c2) := pw_cell_below hb q2
        have p3 : w1.cell? ⟨w.heap.size, 3, none⟩ = some (.slice A3 n3 c3) := pw_cell_below hb q3
        have p4 : w1.cell? ⟨w.heap.size, 4, none⟩ = some (.slice A4 n4 c4) := pw_cell_below hb q4
        have p5 : w1.cell? ⟨w.heap.size, 5, none⟩ = some (.slice A5 n5 c5) := pw_cell_below hb q5
        have p6 : w1.cell? ⟨w.heap.size, 6, none⟩ = some (.slice A6 n6 c6) := pw_cell_below hb q6
        have p7 : w1.cell? ⟨w.heap.size, 7, none⟩ = some (.int .i64 df) := pw_cell_below hb q7
        have hz1 : w.heap.size < w1.heap.size := Nat.lt_of_lt_of_le hz hb.size
        clear q0 q1 q2 q3 q4 q5 q6 q7 hb BW hz
        go_wp2_with fail
        go_roundg (7 - 1)
        case measure => omega
        case rel => exact ⟨1, by omega, by omega, by go_num, ⟨HB1⟩, hz1, Hn, p0, p1, p2, p3, p4, p5, p6, p7⟩
      · have Hn : Aside0 (firstL [e0, e1, e2, e3, e4, e5, e6, defErr df] = e0) := ⟨by
          have hq : firstL [e0, e1, e2, e3, e4, e5, e6] = e0 := by rw [HX.out]; simp [firstL, he]
          rw [HF.out, hq, if_pos he]⟩
        have he' : (e0 != 0) = true := bne_iff_ne.mpr he
        clear HX HF
        go_wp2_with fail
        refine (G0.out _ BW.out).mono ?_
        rintro e w1 ⟨rfl, hb⟩
        have HB1 : Below w.heap.size w w1 := bthen BW.out hb
        clear q0 q1 q2 q3 q4 q5 q6 q7 hb BW hz
        go_wp2_with fail
        go_ret
        exact ⟨by rw [Hn.out]; rfl, HB1⟩
    · by_cases he : e1 = 0
      · have Hn : Aside0 (firstL [e0, e1, e2, e3, e4, e5, e6] = firstL ([e0, e1, e2, e3, e4, e5, e6].drop 2)) := ⟨by rw [HX.out]; simp [firstL, he]⟩
        subst he
        clear HX HF
        go_wp2_with fail
        refine (G1.out _ BW.out).mono ?_
        rintro e w1 ⟨rfl, hb⟩
        have HB1 : Below w.heap.size w w1 := bthen BW.out hb
        have p0 : w1.cell? ⟨w.heap.size, 0, none⟩ = some (.slice A0 n0 c0) := pw_cell_below hb q0
        have p1 : w1.cell? ⟨w.heap.size, 1, none⟩ = some (.slice A1 n1 c1) := pw_cell_below hb q1
        have p2 : w1.cell? ⟨w.heap.size, 2, none⟩ = some (.slice A2 n2 c2) := pw_cell_below hb q2
        have p3 : w1.cell? ⟨w.heap.size, 3, none⟩ = some (.slice A3 n3 c3) := pw_cell_below hb q3
        have p4 : w1.cell? ⟨w.heap.size, 4, none⟩ = some (.slice A4 n4 c4) := pw_cell_below hb q4
        have p5 : w1.cell? ⟨w.heap.size, 5, none⟩ = some (.slice A5 n5 c5) := pw_cell_below hb q5
        have p6 : w1.cell? ⟨w.heap.size, 6, none⟩ = some (.slice A6 n6 c6) := pw_cell_below hb q6
        have p7 : w1.cell? ⟨w.heap.size, 7, none⟩ = some (.int .i64 df) := pw_cell_below hb q7
        have hz1 : w.heap.size < w1.heap.size := Nat.lt_of_lt_of_le hz hb.size
        clear q0 q1 q2 q3 q4 q5 q6 q7 hb BW hz
        go_wp2_with fail
        go_roundg (7 - 2)
        case measure => omega
        case rel => exact ⟨2, by omega, by omega, by go_num, ⟨HB1⟩, hz1, Hn, p0, p1, p2, p3, p4, p5, p6, p7⟩
      · have Hn : Aside0 (firstL [e0, e1, e2, e3, e4, e5, e6, defErr df] = e1) := ⟨by
          have hq : firstL [e0, e1, e2, e3, e4, e5, e6] = e1 := by rw [HX.out]; simp [firstL, he]
          rw [HF.out, hq, if_pos he]⟩
        have he' : (e1 != 0) = true := bne_iff_ne.mpr he
        clear HX HF
        go_wp2_with fail
        refine (G1.out _ BW.out).mono ?_
        rintro e w1 ⟨rfl, hb⟩
        have HB1 : Below w.heap.size w w1 := bthen BW.out hb
        clear q0 q1 q2 q3 q4 q5 q6 q7 hb BW hz
        go_wp2_with fail
        go_ret
        exact ⟨by rw [Hn.out]; rfl, HB1⟩
    · by_cases he : e2 = 0
      · have Hn : Aside0 (firstL [e0, e1, e2, e3, e4, e5, e6] = firstL ([e0, e1, e2, e3, e4, e5, e6].drop 3)) := ⟨by rw [HX.out]; simp [firstL, he]⟩
        subst he
        clear HX HF
        go_wp2_with fail
        refine (G2.out _ BW.out).mono ?_
        rintro e w1 ⟨rfl, hb⟩
        have HB1 : Below w.heap.size w w1 := bthen BW.out hb
        have p0 : w1.cell? ⟨w.heap.size, 0, none⟩ = some (.slice A0 n0 c0) := pw_cell_below hb q0
        have p1 : w1.cell? ⟨w.heap.size, 1, none⟩ = some (.slice A1 n1 c1) := pw_cell_below hb q1
        have p2 : w1.cell? ⟨w.heap.size, 2, none⟩ = some (.slice A2 n2 c2) := pw_cell_below hb q2
        have p3 : w1.cell? ⟨w.heap.size, 3, none⟩ = some (.slice A3 n3 c3) := pw_cell_below hb q3
        have p4 : w1.cell? ⟨w.heap.size, 4, none⟩ = some (.slice A4 n4 c4) := pw_cell_below hb q4
        have p5 : w1.cell? ⟨w.heap.size, 5, none⟩ = some (.slice A5 n5 c5) := pw_cell_below hb q5
        have p6 : w1.cell? ⟨w.heap.size, 6, none⟩ = some (.slice A6 n6 c6) := pw_cell_below hb q6
        have p7 : w1.cell? ⟨w.heap.size, 7, none⟩ = some (.int .i64 df) := pw_cell_below hb q7
        have hz1 : w.heap.size < w1.heap.size := Nat.lt_of_lt_of_le hz hb.size
        clear q0 q1 q2 q3 q4 q5 q6 q7 hb BW hz
        go_wp2_with fail
        go_roundg (7 - 3)
        case measure => omega
        case rel => exact ⟨3, by omega, by omega, by go_num, ⟨HB1⟩, hz1, Hn, p0, p1, p2, p3, p4, p5, p6, p7⟩
      · have Hn : Aside0 (firstL [e0, e1, e2, e3, e4, e5, e6, defErr df] = e2) := ⟨by
          have hq : firstL [e0, e1, e2, e3, e4, e5, e6] = e2 := by rw [HX.out]; simp [firstL, he]
          rw [HF.out, hq, if_pos he]⟩
        have he' : (e2 != 0) = true := bne_iff_ne.mpr he
        clear HX HF
        go_wp2_with fail
        refine (G2.out _ BW.out).mono ?_
        rintro e w1 ⟨rfl, hb⟩
        have HB1 : Below w.heap.size w w1 := bthen BW.out hb
        clear q0 q1 q2 q3 q4 q5 q6 q7 hb BW hz
        go_wp2_with fail
        go_ret
        exact ⟨by rw [Hn.out]; rfl, HB1⟩
    · by_cases he : e3 = 0
      · have Hn : Aside0 (firstL [e0, e1, e2, e3, e4, e5, e6] = firstL ([e0, e1, e2, e3, e4, e5, e6].drop 4)) := ⟨by rw [HX.out]; simp [firstL, he]⟩
        subst he
        clear HX HF
        go_wp2_with fail
        refine (G3.out _ BW.out).mono ?_
        rintro e w1 ⟨rfl, hb⟩
        have HB1 : Below w.heap.size w w1 := bthen BW.out hb
        have p0 : w1.cell? ⟨w.heap.size, 0, none⟩ = some (.slice A0 n0 c0) := pw_cell_below hb q0
        have p1 : w1.cell? ⟨w.heap.size, 1, none⟩ = some (.slice A1 n1 c1) := pw_cell_below hb q1
        have p2 : w1.cell? ⟨w.heap.size, 2, none⟩ = some (.slice A2 n2 c2) := pw_cell_below hb q2
        have p3 : w1.cell? ⟨w.heap.size, 3, none⟩ = some (.slice A3 n3 c3) := pw_cell_below hb q3
        have p4 : w1.cell? ⟨w.heap.size, 4, none⟩ = some (.slice A4 n4 c4) := pw_cell_below hb q4
        have p5 : w1.cell? ⟨w.heap.size, 5, none⟩ = some (.slice A5 n5 c5) := pw_cell_below hb q5
        have p6 : w1.cell? ⟨w.heap.size, 6, none⟩ = some (.slice A6 n6 c6) := pw_cell_below hb q6
        have p7 : w1.cell? ⟨w.heap.size, 7, none⟩ = some (.int .i64 df) := pw_cell_below hb q7
        have hz1 : w.heap.size < w1.heap.size := Nat.lt_of_lt_of_le hz hb.size
        clear q0 q1 q2 q3 q4 q5 q6 q7 hb BW hz
        go_wp2_with fail
        go_roundg (7 - 4)
        case measure => omega
        case rel => exact ⟨4, by omega, by omega, by go_num, ⟨HB1⟩, hz1, Hn, p0, p1, p2, p3, p4, p5, p6, p7⟩
      · have Hn : Aside0 (firstL [e0, e1, e2, e3, e4, e5, e6, defErr df] = e3) := ⟨by
          have hq : firstL [e0, e1, e2, e3, e4, e5, e6] = e3 := by rw [HX.out]; simp [firstL, he]
          rw [HF.out, hq, if_pos he]⟩
        have he' : (e3 != 0) = true := bne_iff_ne.mpr he
        clear HX HF
        go_wp2_with fail
        refine (G3.out _ BW.out).mono ?_
        rintro e w1 ⟨rfl, hb⟩
        have HB1 : Below w.heap.size w w1 := bthen BW.out hb
        clear q0 q1 q2 q3 q4 q5 q6 q7 hb BW hz
        go_wp2_with fail
        go_ret
        exact ⟨by rw [Hn.out]; rfl, HB1⟩
    · by_cases he : e4 = 0
      · have Hn : Aside0 (firstL [e0, e1, e2, e3, e4, e5, e6] = firstL ([e0, e1, e2, e3, e4, e5, e6].drop 5)) := ⟨by rw [HX.out]; simp [firstL, he]⟩
        subst he
        clear HX HF
        go_wp2_with fail
        refine (G4.out _ BW.out).mono ?_
        rintro e w1 ⟨rfl, hb⟩
        have HB1 : Below w.heap.size w w1 := bthen BW.out hb
        have p0 : w1.cell? ⟨w.heap.size, 0, none⟩ = some (.slice A0 n0 c0) := pw_cell_below hb q0
        have p1 : w1.cell? ⟨w.heap.size, 1, none⟩ = some (.slice A1 n1 c1) := pw_cell_below hb q1
        have p2 : w1.cell? ⟨w.heap.size, 2, none⟩ = some (.slice A2 n2 c2) := pw_cell_below hb q2
        have p3 : w1.cell? ⟨w.heap.size, 3, none⟩ = some (.slice A3 n3 c3) := pw_cell_below hb q3
        have p4 : w1.cell? ⟨w.heap.size, 4, none⟩ = some (.slice A4 n4 c4) := pw_cell_below hb q4
        have p5 : w1.cell? ⟨w.heap.size, 5, none⟩ = some (.slice A5 n5 c5) := pw_cell_below hb q5
        have p6 : w1.cell? ⟨w.heap.size, 6, none⟩ = some (.slice A6 n6 c6) := pw_cell_below hb q6
        have p7 : w1.cell? ⟨w.heap.size, 7, none⟩ = some (.int .i64 df) := pw_cell_below hb q7
        have hz1 : w.heap.size < w1.heap.size := Nat.lt_of_lt_of_le hz hb.size
        clear q0 q1 q2 q3 q4 q5 q6 q7 hb BW hz
        go_wp2_with fail
        go_roundg (7 - 5)
        case measure => omega
        case rel => exact ⟨5, by omega, by omega, by go_num, ⟨HB1⟩, hz1, Hn, p0, p1, p2, p3, p4, p5, p6, p7⟩
      · have Hn : Aside0 (firstL [e0, e1, e2, e3, e4, e5, e6, defErr df] = e4) := ⟨by
          have hq : firstL [e0, e1, e2, e3, e4, e5, e6] = e4 := by rw [HX.out]; simp [firstL, he]
          rw [HF.out, hq, if_pos he]⟩
        have he' : (e4 != 0) = true := bne_iff_ne.mpr he
        clear HX HF
        go_wp2_with fail
        refine (G4.out _ BW.out).mono ?_
        rintro e w1 ⟨rfl, hb⟩
        have HB1 : Below w.heap.size w w1 := bthen BW.out hb
        clear q0 q1 q2 q3 q4 q5 q6 q7 hb BW hz
        go_wp2_with fail
        go_ret
        exact ⟨by rw [Hn.out]; rfl, HB1⟩
    · by_cases he : e5 = 0
      · have Hn : Aside0 (firstL [e0, e1, e2, e3, e4, e5, e6] = firstL ([e0, e1, e2, e3, e4, e5, e6].drop 6)) := ⟨by rw [HX.out]; simp [firstL, he]⟩
        subst he
        clear HX HF
        go_wp2_with fail
        refine (G5.out _ BW.out).mono ?_
        rintro e w1 ⟨rfl, hb⟩
        have HB1 : Below w.heap.size w w1 := bthen BW.out hb
        have p0 : w1.cell? ⟨w.heap.size, 0, none⟩ = some (.slice A0 n0 c0) := pw_cell_below hb q0
        have p1 : w1.cell? ⟨w.heap.size, 1, none⟩ = some (.slice A1 n1 c1) := pw_cell_below hb q1
        have p2 : w1.cell? ⟨w.heap.size, 2, none⟩ = some (.slice A2 n2 c2) := pw_cell_below hb q2
        have p3 : w1.cell? ⟨w.heap.size, 3, none⟩ = some (.slice A3 n3 c3) := pw_cell_below hb q3
        have p4 : w1.cell? ⟨w.heap.size, 4, none⟩ = some (.slice A4 n4 c4) := pw_cell_below hb q4
        have p5 : w1.cell? ⟨w.heap.size, 5, none⟩ = some (.slice A5 n5 c5) := pw_cell_below hb q5
        have p6 : w1.cell? ⟨w.heap.size, 6, none⟩ = some (.slice A6 n6 c6) := pw_cell_below hb q6
        have p7 : w1.cell? ⟨w.heap.size, 7, none⟩ = some (.int .i64 df) := pw_cell_below hb q7
        have hz1 : w.heap.size < w1.heap.size := Nat.lt_of_lt_of_le hz hb.size
        clear q0 q1 q2 q3 q4 q5 q6 q7 hb BW hz
        go_wp2_with fail
        go_roundg (7 - 6)
        case measure => omega
        case rel => exact ⟨6, by omega, by omega, by go_num, ⟨HB1⟩, hz1, Hn, p0, p1, p2, p3, p4, p5, p6, p7⟩
      · have Hn : Aside0 (firstL [e0, e1, e2, e3, e4, e5, e6, defErr df] = e5) := ⟨by
          have hq : firstL [e0, e1, e2, e3, e4, e5, e6] = e5 := by rw [HX.out]; simp [firstL, he]
          rw [HF.out, hq, if_pos he]⟩
        have he' : (e5 != 0) = true := bne_iff_ne.mpr he
        clear HX HF
        go_wp2_with fail
        refine (G5.out _ BW.out).mono ?_
        rintro e w1 ⟨rfl, hb⟩
        have HB1 : Below w.heap.size w w1 := bthen BW.out hb
        clear q0 q1 q2 q3 q4 q5 q6 q7 hb BW hz
        go_wp2_with fail
        go_ret
        exact ⟨by rw [Hn.out]; rfl, HB1⟩
    · by_cases he : e6 = 0
      · have Hn : Aside0 (firstL [e0, e1, e2, e3, e4, e5, e6] = firstL ([e0, e1, e2, e3, e4, e5, e6].drop 7)) := ⟨by rw [HX.out]; simp [firstL, he]⟩
        subst he
        clear HX HF
        go_wp2_with fail
        refine (G6.out _ BW.out).mono ?_
        rintro e w1 ⟨rfl, hb⟩
        have HB1 : Below w.heap.size w w1 := bthen BW.out hb
        have p0 : w1.cell? ⟨w.heap.size, 0, none⟩ = some (.slice A0 n0 c0) := pw_cell_below hb q0
        have p1 : w1.cell? ⟨w.heap.size, 1, none⟩ = some (.slice A1 n1 c1) := pw_cell_below hb q1
        have p2 : w1.cell? ⟨w.heap.size, 2, none⟩ = some (.slice A2 n2 c2) := pw_cell_below hb q2
        have p3 : w1.cell? ⟨w.heap.size, 3, none⟩ = some (.slice A3 n3 c3) := pw_cell_below hb q3
        have p4 : w1.cell? ⟨w.heap.size, 4, none⟩ = some (.slice A4 n4 c4) := pw_cell_below hb q4
        have p5 : w1.cell? ⟨w.heap.size, 5, none⟩ = some (.slice A5 n5 c5) := pw_cell_below hb q5
        have p6 : w1.cell? ⟨w.heap.size, 6, none⟩ = some (.slice A6 n6 c6) := pw_cell_below hb q6
        have p7 : w1.cell? ⟨w.heap.size, 7, none⟩ = some (.int .i64 df) := pw_cell_below hb q7
        have hz1 : w.heap.size < w1.heap.size := Nat.lt_of_lt_of_le hz hb.size
        clear q0 q1 q2 q3 q4 q5 q6 q7 hb BW hz
        go_wp2_with fail
        go_roundg (7 - 7)
        case measure => omega
        case rel => exact ⟨7, by omega, by omega, by go_num, ⟨HB1⟩, hz1, Hn, p0, p1, p2, p3, p4, p5, p6, p7⟩
      · have Hn : Aside0 (firstL [e0, e1, e2, e3, e4, e5, e6, defErr df] = e6) := ⟨by
          have hq : firstL [e0, e1, e2, e3, e4, e5, e6] = e6 := by rw [HX.out]; simp [firstL, he]
          rw [HF.out, hq, if_pos he]⟩
        have he' : (e6 != 0) = true := bne_iff_ne.mpr he
        clear HX HF
        go_wp2_with fail
        refine (G6.out _ BW.out).mono ?_
        rintro e w1 ⟨rfl, hb⟩
        have HB1 : Below w.heap.size w w1 := bthen BW.out hb
        clear q0 q1 q2 q3 q4 q5 q6 q7 hb BW hz
        go_wp2_with fail
        go_ret
        exact ⟨by rw [Hn.out]; rfl, HB1⟩
    · have Hn : Aside0 (firstL [e0, e1, e2, e3, e4, e5, e6, defErr df] = defErr df) := ⟨by
        have hq : firstL [e0, e1, e2, e3, e4, e5, e6] = 0 := by rw [HX.out]; rfl
        rw [HF.out, hq]
        rfl⟩
      clear HX HF
      by_cases hd1 : df = 1
      · subst hd1
        have HD : Aside0 (defErr 1 = 0) := ⟨rfl⟩
        go_wp2_with fail
        refine (when_calls _ _ _).mono ?_
        rintro e w1 ⟨rfl, hb⟩
        have HB1 : Below w.heap.size w w1 := bthen BW.out hb
        clear q0 q1 q2 q3 q4 q5 q6 q7 hb BW hz
        go_wp2_with fail
        go_ret
        exact ⟨by rw [Hn.out, HD.out]; rfl, HB1⟩
      · by_cases hd2 : df = 2
        · subst hd2
          have HD : Aside0 (defErr 2 = 0) := ⟨rfl⟩
          go_wp2_with fail
          refine (when_calls _ _ _).mono ?_
          rintro e w1 ⟨rfl, hb⟩
          have HB1 : Below w.heap.size w w1 := bthen BW.out hb
          clear q0 q1 q2 q3 q4 q5 q6 q7 hb BW hz
          go_wp2_with fail
          go_ret
          exact ⟨by rw [Hn.out, HD.out]; rfl, HB1⟩
        · have h1' : (df != 1) = true := bne_iff_ne.mpr hd1
          have h2' : (df != 2) = true := bne_iff_ne.mpr hd2
          have HD : Aside0 (defErr df = 1) := ⟨by unfold defErr; rw [h1', h2']; rfl⟩
          go_wp2_with fail
          refine (when_calls _ _ _).mono ?_
          rintro e w1 ⟨rfl, hb⟩
          have HB1 : Below w.heap.size w w1 := bthen BW.out hb
          clear q0 q1 q2 q3 q4 q5 q6 q7 hb BW hz
          go_wp2_with fail
          go_ret
          exact ⟨by rw [Hn.out, HD.out]; rfl, HB1⟩
end Go.Proofs.YteocdfahhndfoaaDoor.Print
