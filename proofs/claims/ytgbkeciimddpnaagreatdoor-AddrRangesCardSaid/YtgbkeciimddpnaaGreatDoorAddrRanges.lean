/-
The law AddrRanges's walk: any prefix, any text read as a range, any range printed, and what is in it, is the reference's: it returns true.
Conditions: the library's variables hold what they hold.
-/
import Derived.Test.YtgbkeciimddpnaaGreatDoorAddrRw
import Derived.Deep.RegionHeld3
namespace Go.Proofs.YtgbkeciimddpnaaGreatDoor.Ranges
open Go Go.RowKit Go.Proofs.YtgbkeciimddpnaaGreatDoorW.PrintWords Go.Proofs.YtgbkeciimddpnaaGreatDoor.Print Go.Proofs.YtgbkeciimddpnaaGreatDoor.AddrP
attribute [local go_sem high] eqA24 eqA26

set_option maxHeartbeats 800000 in
theorem ranges_long (f0 f1 t0 t1 a0 a1 n : Int) (s : ByteArray) (w : World) (hs : (4096 : Int) < (s.size : Int)) :
    Calls Tryz.prog 3 #[.agg #[.int .u64 f0, .int .u64 f1, .int .u64 t0, .int .u64 t1], .agg #[.int .u64 a0, .int .u64 a1], .int .i64 n, .string s] w fun e w' => e = .returned (.bool true) ∧ Below w.heap.size w w' := by
  go_enter Tryz.func3, Tryz.ntmps3
  go_wp2_with fail
  go_ret
  exact ⟨rfl, ba (ba1 _ _) _⟩
set_option maxRecDepth 100000 in
set_option maxHeartbeats 12800000 in
theorem ranges_walk (f0 f1 t0 t1 a0 a1 n x0 x1 x2 x3 xe q0 q1 q2 q3 qe pe : Int) (hv : Bool) (s T : ByteArray) (w : World) (hs : (s.size : Int) ≤ 4096) (hl : LibVars w) (hp : PrVars w)
    (h5 : ∀ w : World, Calls Tryz.prog 5 #[.agg #[.int .u64 a0, .int .u64 a1], .int .i64 n] w fun e w' => e = .returned (.tuple #[.agg #[.int .u64 x0, .int .u64 x1, .int .u64 x2, .int .u64 x3], .int .i64 xe]) ∧ Below w.heap.size w w')
    (h6 : ∀ w : World, Calls Tryz.prog 6 #[.agg #[.int .u64 a0, .int .u64 a1], .int .i64 n] w fun e w' => e = .returned (.tuple #[.agg #[.int .u64 x0, .int .u64 x1, .int .u64 x2, .int .u64 x3], .int .i64 xe]) ∧ Below w.heap.size w w')
    (h7 : ∀ w : World, LibVars w → PrVars w → Calls Tryz.prog 7 #[.string s] w fun e w' => e = .returned (.tuple #[.agg #[.int .u64 q0, .int .u64 q1, .int .u64 q2, .int .u64 q3], .int .i64 qe]) ∧ Below w.heap.size w w')
    (h8 : ∀ w : World, Calls Tryz.prog 8 #[.string s] w fun e w' => e = .returned (.tuple #[.agg #[.int .u64 q0, .int .u64 q1, .int .u64 q2, .int .u64 q3], .int .i64 qe]) ∧ Below w.heap.size w w')
    (h9 : ∀ w : World, PrVars w → Calls Tryz.prog 9 #[.agg #[.int .u64 f0, .int .u64 f1, .int .u64 t0, .int .u64 t1]] w fun e w' => e = .returned (.tuple #[.string T, .int .i64 pe]) ∧ Below w.heap.size w w')
    (h10 : ∀ w : World, Calls Tryz.prog 10 #[.agg #[.int .u64 f0, .int .u64 f1, .int .u64 t0, .int .u64 t1]] w fun e w' => e = .returned (.tuple #[.string T, .int .i64 pe]) ∧ Below w.heap.size w w')
    (h11 : ∀ w : World, Calls Tryz.prog 11 #[.agg #[.int .u64 f0, .int .u64 f1, .int .u64 t0, .int .u64 t1], .agg #[.int .u64 a0, .int .u64 a1]] w fun e w' => e = .returned (.bool hv) ∧ Below w.heap.size w w')
    (h12 : ∀ w : World, Calls Tryz.prog 12 #[.agg #[.int .u64 f0, .int .u64 f1, .int .u64 t0, .int .u64 t1], .agg #[.int .u64 a0, .int .u64 a1]] w fun e w' => e = .returned (.bool hv) ∧ Below w.heap.size w w') :
    Calls Tryz.prog 3 #[.agg #[.int .u64 f0, .int .u64 f1, .int .u64 t0, .int .u64 t1], .agg #[.int .u64 a0, .int .u64 a1], .int .i64 n, .string s] w fun e w' => e = .returned (.bool true) ∧ Below w.heap.size w w' := by
  have H5 := Lib.hid h5
  have H6 := Lib.hid h6
  have H7 := Lib.hid h7
  have H8 := Lib.hid h8
  have H9 := Lib.hid h9
  have H10 := Lib.hid h10
  have H11 := Lib.hid h11
  have H12 := Lib.hid h12
  have hBr := ba1 w (.cells #[.int .u64 f0, .int .u64 f1, .int .u64 t0, .int .u64 t1] 26)
  have hRr := box4_new w f0 f1 t0 t1 26
  have hzr : (w.alloc (.cells #[.int .u64 f0, .int .u64 f1, .int .u64 t0, .int .u64 t1] 26)).heap.size = w.heap.size + 1 := by go_simp
  have hBa := ba hBr (.cells #[.int .u64 a0, .int .u64 a1] 24)
  have hRa := hRr.below (ba1 _ (.cells #[.int .u64 a0, .int .u64 a1] 24))
  have hAa := box2_new (w.alloc (.cells #[.int .u64 f0, .int .u64 f1, .int .u64 t0, .int .u64 t1] 26)) a0 a1 24
  rw [hzr] at hAa
  have hLa := hl.below hBa
  have hPa := hp.below hBa
  clear hl hp h5 h6 h7 h8 h9 h10 h11 h12 hBr hRr hzr
  go_enter Tryz.func3, Tryz.ntmps3
  obtain ⟨r0, r1, r2, r3⟩ := hRa
  obtain ⟨a2, a3⟩ := hAa
  go_wp2_with fail
  generalize (w.alloc (.cells #[.int .u64 f0, .int .u64 f1, .int .u64 t0, .int .u64 t1] 26)).alloc (.cells #[.int .u64 a0, .int .u64 a1] 24) = wa at hBa hLa hPa r0 r1 r2 r3 a2 a3 ⊢
  refine (H5.out _).mono ?_
  rintro e w1 ⟨rfl, hb1⟩
  have hc1 := ba hb1 (.cells #[.int .u64 x0, .int .u64 x1, .int .u64 x2, .int .u64 x3] 26)
  have hB1 := bnext hBa hc1
  have hL1 := hLa.below hc1
  have hP1 := hPa.below hc1
  have hR1 := Box4.below ⟨r0, r1, r2, r3⟩ hc1
  have hA1 := Box2.below ⟨a2, a3⟩ hc1
  have hX1 := box4_new w1 x0 x1 x2 x3 26
  have hlt1 : w.heap.size + 1 < w1.heap.size := Nat.lt_of_lt_of_le (lt_of_cell a2) hb1.size
  clear hb1 hc1 hLa hPa hBa r0 r1 r2 r3 a2 a3
  obtain ⟨r0, r1, r2, r3⟩ := hR1
  obtain ⟨a2, a3⟩ := hA1
  go_wp2_with fail
  generalize w1.heap.size = b1 at hX1 hlt1 ⊢
  generalize w1.alloc (.cells #[.int .u64 x0, .int .u64 x1, .int .u64 x2, .int .u64 x3] 26) = w2 at hB1 hL1 hP1 r0 r1 r2 r3 a2 a3 hX1 ⊢
  refine (H6.out _).mono ?_
  rintro e w3 ⟨rfl, hb3⟩
  have hc3 := ba hb3 (.cells #[.int .u64 x0, .int .u64 x1, .int .u64 x2, .int .u64 x3] 26)
  have hB3 := bnext hB1 hc3
  have hL3 := hL1.below hc3
  have hP3 := hP1.below hc3
  have hR3 := Box4.below ⟨r0, r1, r2, r3⟩ hc3
  have hA3 := Box2.below ⟨a2, a3⟩ hc3
  have hX3 := hX1.below hc3
  have hY3 := box4_new w3 x0 x1 x2 x3 26
  have hlt3 : b1 < w3.heap.size := Nat.lt_of_lt_of_le (lt_of_cell hX1.1) hb3.size
  clear hb3 hc3 hL1 hP1 hB1 r0 r1 r2 r3 a2 a3 hX1
  go_wp2_with fail
  generalize w3.heap.size = b3 at hY3 hlt3 ⊢
  generalize w3.alloc (.cells #[.int .u64 x0, .int .u64 x1, .int .u64 x2, .int .u64 x3] 26) = w4 at hB3 hL3 hP3 hR3 hA3 hX3 hY3 ⊢
  refine (H7.out _ hL3 hP3).mono ?_
  rintro e w5 ⟨rfl, hb5⟩
  have hc5 := ba hb5 (.cells #[.int .u64 q0, .int .u64 q1, .int .u64 q2, .int .u64 q3] 26)
  have hB5 := bnext hB3 hc5
  have hP5 := hP3.below hc5
  have hR5 := hR3.below hc5
  have hA5 := hA3.below hc5
  have hX5 := hX3.below hc5
  have hY5 := hY3.below hc5
  have hU5 := box4_new w5 q0 q1 q2 q3 26
  have hlt5 : b3 < w5.heap.size := Nat.lt_of_lt_of_le (lt_of_cell hY3.1) hb5.size
  clear hb5 hc5 hL3 hP3 hB3 hR3 hA3 hX3 hY3
  go_wp2_with fail
  generalize w5.heap.size = b5 at hU5 hlt5 ⊢
  generalize w5.alloc (.cells #[.int .u64 q0, .int .u64 q1, .int .u64 q2, .int .u64 q3] 26) = w6 at hB5 hP5 hR5 hA5 hX5 hY5 hU5 ⊢
  refine (H8.out _).mono ?_
  rintro e w7 ⟨rfl, hb7⟩
  have hc7 := ba hb7 (.cells #[.int .u64 q0, .int .u64 q1, .int .u64 q2, .int .u64 q3] 26)
  have hB7 := bnext hB5 hc7
  have hP7 := hP5.below hc7
  have hR7 := hR5.below hc7
  have hA7 := hA5.below hc7
  have hX7 := hX5.below hc7
  have hY7 := hY5.below hc7
  have hU7 := hU5.below hc7
  have hV7 := box4_new w7 q0 q1 q2 q3 26
  have hlt7 : b5 < w7.heap.size := Nat.lt_of_lt_of_le (lt_of_cell hU5.1) hb7.size
  clear hb7 hc7 hP5 hB5 hR5 hA5 hX5 hY5 hU5
  obtain ⟨r0, r1, r2, r3⟩ := hR7
  go_wp2_with fail
  generalize w7.heap.size = b7 at hV7 hlt7 ⊢
  generalize w7.alloc (.cells #[.int .u64 q0, .int .u64 q1, .int .u64 q2, .int .u64 q3] 26) = w8 at hB7 hP7 r0 r1 r2 r3 hA7 hX7 hY7 hU7 hV7 ⊢
  refine (H9.out _ hP7).mono ?_
  rintro e w9 ⟨rfl, hb9⟩
  have hB9 := bnext hB7 hb9
  have hR9 := Box4.below ⟨r0, r1, r2, r3⟩ hb9
  have hA9 := hA7.below hb9
  have hX9 := hX7.below hb9
  have hY9 := hY7.below hb9
  have hU9 := hU7.below hb9
  have hV9 := hV7.below hb9
  clear hb9 hP7 hB7 r0 r1 r2 r3 hA7 hX7 hY7 hU7 hV7
  obtain ⟨r0, r1, r2, r3⟩ := hR9
  go_wp2_with fail
  refine (H10.out _).mono ?_
  rintro e wz ⟨rfl, hbz⟩
  have hBz := bnext hB9 hbz
  have hRz := Box4.below ⟨r0, r1, r2, r3⟩ hbz
  have hAz := hA9.below hbz
  have hXz := hX9.below hbz
  have hYz := hY9.below hbz
  have hUz := hU9.below hbz
  have hVz := hV9.below hbz
  clear hbz hB9 r0 r1 r2 r3 hA9 hX9 hY9 hU9 hV9
  obtain ⟨r0, r1, r2, r3⟩ := hRz
  obtain ⟨a2, a3⟩ := hAz
  obtain ⟨x4, x5, x6, x7⟩ := hXz
  obtain ⟨y4, y5, y6, y7⟩ := hYz
  obtain ⟨u4, u5, u6, u7⟩ := hUz
  obtain ⟨v4, v5, v6, v7⟩ := hVz
  go_wp2_with fail
  go_region_held3 (fun w' => Below w.heap.size w w' ∧ (w'.cell? ⟨w.heap.size, 0, none⟩ = some (.int .u64 f0) ∧ w'.cell? ⟨w.heap.size, 1, none⟩ = some (.int .u64 f1) ∧ w'.cell? ⟨w.heap.size, 2, none⟩ = some (.int .u64 t0) ∧ w'.cell? ⟨w.heap.size, 3, none⟩ = some (.int .u64 t1)) ∧ (w'.cell? ⟨w.heap.size + 1, 0, none⟩ = some (.int .u64 a0) ∧ w'.cell? ⟨w.heap.size + 1, 1, none⟩ = some (.int .u64 a1)) ∧
      (w'.cell? ⟨b1, 0, none⟩ = some (.int .u64 x0) ∧ w'.cell? ⟨b1, 1, none⟩ = some (.int .u64 x1) ∧ w'.cell? ⟨b1, 2, none⟩ = some (.int .u64 x2) ∧ w'.cell? ⟨b1, 3, none⟩ = some (.int .u64 x3)) ∧ (w'.cell? ⟨b3, 0, none⟩ = some (.int .u64 x0) ∧ w'.cell? ⟨b3, 1, none⟩ = some (.int .u64 x1) ∧ w'.cell? ⟨b3, 2, none⟩ = some (.int .u64 x2) ∧ w'.cell? ⟨b3, 3, none⟩ = some (.int .u64 x3)) ∧
      (w'.cell? ⟨b5, 0, none⟩ = some (.int .u64 q0) ∧ w'.cell? ⟨b5, 1, none⟩ = some (.int .u64 q1) ∧ w'.cell? ⟨b5, 2, none⟩ = some (.int .u64 q2) ∧ w'.cell? ⟨b5, 3, none⟩ = some (.int .u64 q3)) ∧ (w'.cell? ⟨b7, 0, none⟩ = some (.int .u64 q0) ∧ w'.cell? ⟨b7, 1, none⟩ = some (.int .u64 q1) ∧ w'.cell? ⟨b7, 2, none⟩ = some (.int .u64 q2) ∧ w'.cell? ⟨b7, 3, none⟩ = some (.int .u64 q3)))
    (first | ((repeat' apply And.intro) <;> first | (refine Below.drew ?_; assumption) | go_keep) | (go_split_ands; refine ⟨bnext (by assumption) (by assumption), ?_⟩; (repeat' apply And.intro) <;> (refine pw_cell_below (by assumption) ?_; assumption)))
    (first | (go_at_call 11; refine (H11.out _).mono ?_; rintro e w' ⟨rfl, hb⟩) | (go_at_call 12; refine (H12.out _).mono ?_; rintro e w' ⟨rfl, hb⟩))
  go_wp2_with fail
  go_ret
  refine ⟨by simp, ?_⟩
  exact And.left (by assumption)
theorem addrRanges_true (f0 f1 t0 t1 a0 a1 n : Int) (s : ByteArray) (w : World) (w0 : 0 ≤ f0 ∧ f0 ≤ top) (w1 : 0 ≤ f1 ∧ f1 ≤ top) (w2 : 0 ≤ t0 ∧ t0 ≤ top) (w3 : 0 ≤ t1 ∧ t1 ≤ top) (w4 : 0 ≤ a0 ∧ a0 ≤ top) (w5 : 0 ≤ a1 ∧ a1 ≤ top) (hl : LibVars w) (hp : PrVars w) :
    Calls Tryz.prog 3 #[.agg #[.int .u64 f0, .int .u64 f1, .int .u64 t0, .int .u64 t1], .agg #[.int .u64 a0, .int .u64 a1], .int .i64 n, .string s] w fun e w' => e = .returned (.bool true) ∧ Below w.heap.size w w' := by
  by_cases hs : s.size ≤ 4096
  · obtain ⟨h7, h8⟩ := parseRg_both s hs _ _ _ _ _ rfl
    obtain ⟨h9, h10⟩ := printRg_both f0 f1 t0 t1 w0 w1 w2 w3
    exact ranges_walk f0 f1 t0 t1 a0 a1 n _ _ _ _ _ _ _ _ _ _ _ (hasR f0 f1 t0 t1 a0 a1) s _ w (by omega) hl hp (prefix_val a0 a1 n _ _ _ _ _ w4 w5 (Lib.hid rfl)) (refPrefix_val a0 a1 n _ _ _ _ _ w4 w5 (Lib.hid rfl)) h7 h8 h9 h10 (has_val f0 f1 t0 t1 a0 a1 _ (Lib.hid rfl)) (refHas_val f0 f1 t0 t1 a0 a1 _ (Lib.hid rfl))
  · exact ranges_long f0 f1 t0 t1 a0 a1 n s w (by omega)
theorem bounds_top {a : Int} (h : (Lit.int .u64 a).wf = true) : 0 ≤ a ∧ a ≤ top := by
  unfold top
  simp [Lit.wf, IntKind.min, IntKind.max, IntKind.bits, IntKind.signed] at h
  omega
/-- As the row takes it. -/
theorem addrRanges_card (f0 f1 t0 t1 a0 a1 n : Int) (s : ByteArray) (w : World) (wr : ((Lit.int .u64 f0).wf = true ∧ (Lit.int .u64 f1).wf = true) ∧ (Lit.int .u64 t0).wf = true ∧ (Lit.int .u64 t1).wf = true) (wa : (Lit.int .u64 a0).wf = true ∧ (Lit.int .u64 a1).wf = true) (_ : (Lit.int .i64 n).wf = true) (_ : s.size ≤ 140737488351232) (hv : LibVars w ∧ PrVars w) :
    Calls Tryz.prog 3 #[.agg #[.int .u64 f0, .int .u64 f1, .int .u64 t0, .int .u64 t1], .agg #[.int .u64 a0, .int .u64 a1], .int .i64 n, .string s] w fun e w' => e = .returned (.bool true) ∧ Below w.heap.size w w' :=
  addrRanges_true f0 f1 t0 t1 a0 a1 n s w (bounds_top wr.1.1) (bounds_top wr.1.2) (bounds_top wr.2.1) (bounds_top wr.2.2) (bounds_top wa.1) (bounds_top wa.2) hv.1 hv.2
end Go.Proofs.YtgbkeciimddpnaaGreatDoor.Ranges
