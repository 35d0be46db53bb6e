/-
The law AddrRangeBack's walk: a range that is printed is read back as it was, and its ends are in it: it returns true.
Conditions: the library's variables hold what they hold.
-/
import Derived.Test.YtgbkeciimddpnaaGreatDoorAddrRw
import Derived.Deep.RegionHeld3
namespace Go.Proofs.YtgbkeciimddpnaaGreatDoor.Ranges
open Go Go.RowKit Go.Proofs.YtgbkeciimddpnaaGreatDoorW.PrintWords Go.Proofs.YtgbkeciimddpnaaGreatDoor.Print Go.Proofs.YtgbkeciimddpnaaGreatDoor.AddrP
attribute [local go_sem high] eqA24 eqA26
set_option maxHeartbeats 1600000 in
theorem rback_refused (f0 f1 t0 t1 : Int) (T : ByteArray) (w : World) (hp : PrVars w)
    (h9 : ∀ w : World, PrVars w → Calls Tryz.prog 9 #[.agg #[.int .u64 f0, .int .u64 f1, .int .u64 t0, .int .u64 t1]] w fun e w' => e = .returned (.tuple #[.string T, .int .i64 31]) ∧ Below w.heap.size w w')
    (h10 : ∀ w : World, Calls Tryz.prog 10 #[.agg #[.int .u64 f0, .int .u64 f1, .int .u64 t0, .int .u64 t1]] w fun e w' => e = .returned (.tuple #[.string T, .int .i64 31]) ∧ Below w.heap.size w w') :
    Calls Tryz.prog 4 #[.agg #[.int .u64 f0, .int .u64 f1, .int .u64 t0, .int .u64 t1]] w fun e w' => e = .returned (.bool true) ∧ Below w.heap.size w w' := by
  have H9 := Lib.hid h9
  have H10 := Lib.hid h10
  have hBr := ba1 w (.cells #[.int .u64 f0, .int .u64 f1, .int .u64 t0, .int .u64 t1] 26)
  have hRr := box4_new w f0 f1 t0 t1 26
  have hPr := hp.below hBr
  clear hp h9 h10
  go_enter Tryz.func4, Tryz.ntmps4
  obtain ⟨r0, r1, r2, r3⟩ := hRr
  go_wp2_with fail
  generalize w.alloc (.cells #[.int .u64 f0, .int .u64 f1, .int .u64 t0, .int .u64 t1] 26) = wa at hBr hPr r0 r1 r2 r3 ⊢
  refine (H9.out _ hPr).mono ?_
  rintro e w1 ⟨rfl, hb1⟩
  have hB1 := bnext hBr hb1
  have hR1 := Box4.below ⟨r0, r1, r2, r3⟩ hb1
  clear hb1 hBr hPr r0 r1 r2 r3
  obtain ⟨r0, r1, r2, r3⟩ := hR1
  go_wp2_with fail
  refine (H10.out _).mono ?_
  rintro e w3 ⟨rfl, hb3⟩
  have hB3 := bnext hB1 hb3
  clear hb3 hB1 r0 r1 r2 r3
  go_wp2_with fail
  go_ret
  exact ⟨by simp, hB3⟩
set_option maxRecDepth 100000 in
set_option maxHeartbeats 6400000 in
theorem rback_walk (f0 f1 t0 t1 : Int) (T : ByteArray) (w : World) (hl : LibVars w) (hp : PrVars w)
    (h9 : ∀ w : World, PrVars w → Calls Tryz.prog 9 #[.agg #[.int .u64 f0, .int .u64 f1, .int .u64 t0, .int .u64 t1]] w fun e w' => e = .returned (.tuple #[.string T, .int .i64 0]) ∧ Below w.heap.size w w')
    (h10 : ∀ w : World, Calls Tryz.prog 10 #[.agg #[.int .u64 f0, .int .u64 f1, .int .u64 t0, .int .u64 t1]] w fun e w' => e = .returned (.tuple #[.string T, .int .i64 0]) ∧ Below w.heap.size w w')
    (h7 : ∀ w : World, LibVars w → PrVars w → Calls Tryz.prog 7 #[.string T] w fun e w' => e = .returned (.tuple #[.agg #[.int .u64 f0, .int .u64 f1, .int .u64 t0, .int .u64 t1], .int .i64 0]) ∧ Below w.heap.size w w')
    (h11 : ∀ w : World, Calls Tryz.prog 11 #[.agg #[.int .u64 f0, .int .u64 f1, .int .u64 t0, .int .u64 t1], .agg #[.int .u64 f0, .int .u64 f1]] w fun e w' => e = .returned (.bool true) ∧ Below w.heap.size w w')
    (h11b : ∀ w : World, Calls Tryz.prog 11 #[.agg #[.int .u64 f0, .int .u64 f1, .int .u64 t0, .int .u64 t1], .agg #[.int .u64 t0, .int .u64 t1]] w fun e w' => e = .returned (.bool true) ∧ Below w.heap.size w w') :
    Calls Tryz.prog 4 #[.agg #[.int .u64 f0, .int .u64 f1, .int .u64 t0, .int .u64 t1]] w fun e w' => e = .returned (.bool true) ∧ Below w.heap.size w w' := by
  have H9 := Lib.hid h9
  have H10 := Lib.hid h10
  have H7 := Lib.hid h7
  have H11 := Lib.hid h11
  have H11b := Lib.hid h11b
  have hBr := ba1 w (.cells #[.int .u64 f0, .int .u64 f1, .int .u64 t0, .int .u64 t1] 26)
  have hRr := box4_new w f0 f1 t0 t1 26
  have hLr := hl.below hBr
  have hPr := hp.below hBr
  clear hl hp h9 h10 h7 h11 h11b
  go_enter Tryz.func4, Tryz.ntmps4
  obtain ⟨r0, r1, r2, r3⟩ := hRr
  go_wp2_with fail
  generalize w.alloc (.cells #[.int .u64 f0, .int .u64 f1, .int .u64 t0, .int .u64 t1] 26) = wa at hBr hPr hLr r0 r1 r2 r3 ⊢
  refine (H9.out _ hPr).mono ?_
  rintro e w1 ⟨rfl, hb1⟩
  have hB1 := bnext hBr hb1
  have hL1 := hLr.below hb1
  have hP1 := hPr.below hb1
  have hR1 := Box4.below ⟨r0, r1, r2, r3⟩ hb1
  clear hb1 hBr hPr hLr r0 r1 r2 r3
  obtain ⟨r0, r1, r2, r3⟩ := hR1
  go_wp2_with fail
  refine (H10.out _).mono ?_
  rintro e w3 ⟨rfl, hb3⟩
  have hB3 := bnext hB1 hb3
  have hL3 := hL1.below hb3
  have hP3 := hP1.below hb3
  have hR3 := Box4.below ⟨r0, r1, r2, r3⟩ hb3
  clear hb3 hB1 hL1 hP1 r0 r1 r2 r3
  go_wp2_with fail
  refine (H7.out _ hL3 hP3).mono ?_
  rintro e w5 ⟨rfl, hb5⟩
  have hc5 := ba hb5 (.cells #[.int .u64 f0, .int .u64 f1, .int .u64 t0, .int .u64 t1] 26)
  have hB5 := bnext hB3 hc5
  have hR5 := hR3.below hc5
  have hX5 := box4_new w5 f0 f1 t0 t1 26
  have hlt5 : w.heap.size < w5.heap.size := Nat.lt_of_lt_of_le (lt_of_cell hR3.1) hb5.size
  clear hb5 hc5 hL3 hP3 hB3 hR3
  obtain ⟨r0, r1, r2, r3⟩ := hR5
  obtain ⟨x0, x1, x2, x3⟩ := hX5
  go_wp2_with fail
  generalize w5.heap.size = b5 at x0 x1 x2 x3 hlt5 ⊢
  generalize w5.alloc (.cells #[.int .u64 f0, .int .u64 f1, .int .u64 t0, .int .u64 t1] 26) = w6 at hB5 r0 r1 r2 r3 x0 x1 x2 x3 ⊢
  refine (H11.out _).mono ?_
  rintro e w7 ⟨rfl, hb7⟩
  have hB7 := bnext hB5 hb7
  have hR7 := Box4.below ⟨r0, r1, r2, r3⟩ hb7
  clear hb7 hB5 r0 r1 r2 r3 x0 x1 x2 x3
  obtain ⟨r0, r1, r2, r3⟩ := hR7
  go_wp2_with fail
  refine (H11b.out _).mono ?_
  rintro e w9 ⟨rfl, hb9⟩
  have hB9 := bnext hB7 hb9
  go_wp2_with fail
  go_ret
  exact ⟨by simp, hB9⟩
theorem printRg_len (f0 f1 t0 t1 : Int) : (printRg f0 f1 t0 t1).1.length ≤ 4096 := by
  have h1 := prA_len f0.toNat f1.toNat
  have h2 := prA_len t0.toNat t1.toNat
  unfold printRg
  split
  · simp
  · split
    · simp; omega
    · split
      · next h =>
        have hb := prefP_ok h
        have h3 := digs_len (b := 10) (by omega) 3 (sameP f0 f1 t0 t1).toNat (by omega)
        simp
        omega
      · simp
        omega
theorem addrRangeBack_true (f0 f1 t0 t1 : Int) (w : World) (w0 : 0 ≤ f0 ∧ f0 ≤ top) (w1 : 0 ≤ f1 ∧ f1 ≤ top) (w2 : 0 ≤ t0 ∧ t0 ≤ top) (w3 : 0 ≤ t1 ∧ t1 ≤ top) (hl : LibVars w) (hp : PrVars w) :
    Calls Tryz.prog 4 #[.agg #[.int .u64 f0, .int .u64 f1, .int .u64 t0, .int .u64 t1]] w fun e w' => e = .returned (.bool true) ∧ Below w.heap.size w w' := by
  obtain ⟨h9, h10⟩ := printRg_both f0 f1 t0 t1 w0 w1 w2 w3
  rcases print_err f0 f1 t0 t1 with he | he
  · have hb := print_back f0 f1 t0 t1 w0 w1 w2 w3 he
    have hh := has_ends f0 f1 t0 t1 he
    have hlen := printRg_len f0 f1 t0 t1
    rw [he] at h9 h10
    obtain ⟨h7, _⟩ := parseRg_both (mkB (printRg f0 f1 t0 t1).1) (by simp [mkB, ByteArray.size]; omega) f0 f1 t0 t1 0 (by rw [mkB_data]; exact hb)
    exact rback_walk f0 f1 t0 t1 _ w hl hp h9 h10 h7 (has_val f0 f1 t0 t1 f0 f1 _ (Lib.hid hh.1)) (has_val f0 f1 t0 t1 t0 t1 _ (Lib.hid hh.2))
  · rw [he] at h9 h10
    exact rback_refused f0 f1 t0 t1 _ w hp h9 h10
theorem bounds_top {a : Int} (h : (Lit.int .u64 a).wf = true) : 0 ≤ a ∧ a ≤ top := by
  unfold top
  simp [Lit.wf, IntKind.min, IntKind.max, IntKind.bits, IntKind.signed] at h
  omega
/-- As the row takes it. -/
theorem addrRangeBack_card (f0 f1 t0 t1 : Int) (w : World) (wr : ((Lit.int .u64 f0).wf = true ∧ (Lit.int .u64 f1).wf = true) ∧ (Lit.int .u64 t0).wf = true ∧ (Lit.int .u64 t1).wf = true) (hv : LibVars w ∧ PrVars w) :
    Calls Tryz.prog 4 #[.agg #[.int .u64 f0, .int .u64 f1, .int .u64 t0, .int .u64 t1]] w fun e w' => e = .returned (.bool true) ∧ Below w.heap.size w w' :=
  addrRangeBack_true f0 f1 t0 t1 w (bounds_top wr.1.1) (bounds_top wr.1.2) (bounds_top wr.2.1) (bounds_top wr.2.2) hv.1 hv.2
end Go.Proofs.YtgbkeciimddpnaaGreatDoor.Ranges
