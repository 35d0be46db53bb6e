/-
The law AddrBack's walk: a print is read back, and a text that is read is printed so: it returns true.
Conditions: the library's variables hold what they hold.
-/
import Derived.Test.YtgbkeciimddpnaaDoorAddrTexts
namespace Go.Proofs.YtgbkeciimddpnaaDoor.Print
open Go Go.RowKit Go.Proofs.YtgbkeciimddpnaaDoorW.PrintWords Go.Proofs.YtgbkeciimddpnaaDoor.AddrP
attribute [local go_sem high] eqA25

/-- What both readings hand back, and that what was read is printed as it stood. -/
theorem parse_again (s : ByteArray) (hs : s.size < 4294967281) : ∃ q0 q1 ee : Int, (∀ w : World, LibVars w → PrVars w → Calls Tryd.prog 8 #[.string s] w fun e w' => e = .returned (.tuple #[.agg #[.int .u64 q0, .int .u64 q1], .int .i64 ee]) ∧ Below w.heap.size w w') ∧
    (∀ w : World, Calls Tryd.prog 12 #[.string s] w fun e w' => e = .returned (.tuple #[.agg #[.int .u64 q0, .int .u64 q1], .int .i64 ee]) ∧ Below w.heap.size w w') ∧
    (ee = 30 ∨ ee = 0 ∧ ∀ w : World, PrVars w → Calls Tryd.prog 7 #[.agg #[.int .u64 q0, .int .u64 q1]] w fun e w' => e = .returned (.string s) ∧ Below w.heap.size w w') := by
  have h1 := fun w hl hp => parse_calls s w hs hl hp
  have h2 := fun w => refParse_calls s w
  unfold ParsePost at h1 h2
  cases hr : parseL s.data.toList with
  | none =>
    rw [hr] at h1 h2
    exact ⟨0, 0, 30, h1, h2, .inl rfl⟩
  | some p =>
    rw [hr] at h1 h2
    obtain ⟨k1, k2, k3⟩ := parseL_lt _ p hr
    refine ⟨p.1, p.2, 0, h1, h2, .inr ⟨rfl, fun w hv => ?_⟩⟩
    have h := print_calls p.1 p.2 k1 k2 w hv
    rw [k3] at h
    exact h
theorem print_again (hi lo : Nat) (h1 : hi < 18446744073709551616) (h2 : lo < 18446744073709551616) (w : World) (hl : LibVars w) (hp : PrVars w) : Calls Tryd.prog 8 #[.string (mkB (prA hi lo))] w fun e w' => e = .returned (.tuple #[.agg #[.int .u64 hi, .int .u64 lo], .int .i64 0]) ∧ Below w.heap.size w w' := by
  have h := parse_calls (mkB (prA hi lo)) w (by have := prA_len hi lo; simp [mkB, ByteArray.size]; omega) hl hp
  unfold ParsePost at h
  rw [show (mkB (prA hi lo)).data.toList = prA hi lo by simp [mkB], parseL_prA hi lo h1 h2] at h
  exact h
set_option maxHeartbeats 800000 in
theorem back_long (a0 a1 : Int) (s : ByteArray) (w : World) (hs : (4096 : Int) < (s.size : Int)) :
    Calls Tryd.prog 5 #[.agg #[.int .u64 a0, .int .u64 a1], .string s] w fun e w' => e = .returned (.bool true) ∧ Below w.heap.size w w' := by
  go_enter Tryd.func5, Tryd.ntmps5
  go_wp2_with fail
  go_ret
  exact ⟨rfl, ba1 _ _⟩
set_option maxRecDepth 100000 in
set_option maxHeartbeats 6400000 in
theorem back_walk (a0 a1 q0 q1 ee : Int) (s T : ByteArray) (w : World) (hs : (s.size : Int) ≤ 4096) (hl : LibVars w) (hp : PrVars w)
    (h7 : ∀ w : World, PrVars w → Calls Tryd.prog 7 #[.agg #[.int .u64 a0, .int .u64 a1]] w fun e w' => e = .returned (.string T) ∧ Below w.heap.size w w')
    (h8a : ∀ w : World, LibVars w → PrVars w → Calls Tryd.prog 8 #[.string T] w fun e w' => e = .returned (.tuple #[.agg #[.int .u64 a0, .int .u64 a1], .int .i64 0]) ∧ Below w.heap.size w w')
    (h8 : ∀ w : World, LibVars w → PrVars w → Calls Tryd.prog 8 #[.string s] w fun e w' => e = .returned (.tuple #[.agg #[.int .u64 q0, .int .u64 q1], .int .i64 ee]) ∧ Below w.heap.size w w')
    (h12 : ∀ w : World, Calls Tryd.prog 12 #[.string s] w fun e w' => e = .returned (.tuple #[.agg #[.int .u64 q0, .int .u64 q1], .int .i64 ee]) ∧ Below w.heap.size w w')
    (hq : ee = 30 ∨ ee = 0 ∧ ∀ w : World, PrVars w → Calls Tryd.prog 7 #[.agg #[.int .u64 q0, .int .u64 q1]] w fun e w' => e = .returned (.string s) ∧ Below w.heap.size w w') :
    Calls Tryd.prog 5 #[.agg #[.int .u64 a0, .int .u64 a1], .string s] w fun e w' => e = .returned (.bool true) ∧ Below w.heap.size w w' := by
  have H8 := Lib.hid h8
  have H12 := Lib.hid h12
  have H7 := Lib.hid h7
  have H8a := Lib.hid h8a
  have HQ := Lib.hid hq
  have hBa := ba1 w (.cells #[.int .u64 a0, .int .u64 a1] 25)
  have hXa := box2_new w a0 a1 25
  have hLa := hl.below hBa
  have hPa := hp.below hBa
  clear hl hp h8 h12 h7 h8a hq
  go_enter Tryd.func5, Tryd.ntmps5
  go_wp2_with fail
  generalize w.alloc (.cells #[.int .u64 a0, .int .u64 a1] 25) = wa at hBa hXa hLa hPa ⊢
  refine (H7.out _ hPa).mono ?_
  rintro e w1 ⟨rfl, hb1⟩
  have hB1 := bnext hBa hb1
  have hX1 := hXa.below hb1
  have hL1 := hLa.below hb1
  have hP1 := hPa.below hb1
  clear hb1 hXa hLa hPa hBa
  go_wp2_with fail
  refine (H8a.out _ hL1 hP1).mono ?_
  rintro e w2 ⟨rfl, hb2⟩
  have hB2 := ba (bnext hB1 hb2) (.cells #[.int .u64 a0, .int .u64 a1] 25)
  have hb3 := hb2.trans ((ba1 w2 (.cells #[.int .u64 a0, .int .u64 a1] 25)).mono hb2.size)
  have hX2 := hX1.below hb3
  have hL2 := hL1.below hb3
  have hP2 := hP1.below hb3
  have hY2 := box2_new w2 a0 a1 25
  have hlt2 : w.heap.size ≤ w2.heap.size := (bnext hB1 hb2).size
  clear hb2 hb3 hX1 hB1 hL1 hP1
  obtain ⟨x0, x1⟩ := hX2
  obtain ⟨y0, y1⟩ := hY2
  go_wp2_with fail
  generalize w2.alloc (.cells #[.int .u64 a0, .int .u64 a1] 25) = w3 at hB2 x0 x1 y0 y1 hL2 hP2 ⊢
  refine (H8.out _ hL2 hP2).mono ?_
  rintro e w4 ⟨rfl, hb4⟩
  have hB4 := ba (bnext hB2 hb4) (.cells #[.int .u64 q0, .int .u64 q1] 25)
  have hb5 := hb4.trans ((ba1 w4 (.cells #[.int .u64 q0, .int .u64 q1] 25)).mono hb4.size)
  have hP4 := hP2.below hb5
  have hZ4 := box2_new w4 q0 q1 25
  have hlt4 : w.heap.size ≤ w4.heap.size := (bnext hB2 hb4).size
  clear hb4 hb5 x0 x1 y0 y1 hB2 hL2 hP2
  go_wp2_with fail
  generalize w4.heap.size = b4 at hZ4 hlt4 ⊢
  generalize w4.alloc (.cells #[.int .u64 q0, .int .u64 q1] 25) = w5 at hB4 hZ4 hP4 ⊢
  refine (H12.out _).mono ?_
  rintro e w6 ⟨rfl, hb6⟩
  have hB6 := ba (bnext hB4 hb6) (.cells #[.int .u64 q0, .int .u64 q1] 25)
  have hb7 := hb6.trans ((ba1 w6 (.cells #[.int .u64 q0, .int .u64 q1] 25)).mono hb6.size)
  have hP6 := hP4.below hb7
  obtain ⟨z0, z1⟩ := hZ4.below hb7
  have hlt6 := hb6.size
  clear hB4 hP4 hZ4 hb6 hb7
  rcases HQ.out with rfl | ⟨rfl, h7q⟩
  · go_wp2_with fail
    go_ret
    exact ⟨rfl, hB6⟩
  · have H7q := Lib.hid h7q
    clear h7q
    go_wp2_with fail
    refine (H7q.out _ hP6).mono ?_
    rintro e w7 ⟨rfl, hb7⟩
    go_wp2_with fail
    go_ret
    exact ⟨by simp, bnext hB6 hb7⟩
theorem addrBack_true (a0 a1 : Int) (s : ByteArray) (w : World) (wa : (Lit.int .u64 a0).wf = true ∧ (Lit.int .u64 a1).wf = true) (hl : LibVars w) (hp : PrVars w) :
    Calls Tryd.prog 5 #[.agg #[.int .u64 a0, .int .u64 a1], .string s] w fun e w' => e = .returned (.bool true) ∧ Below w.heap.size w w' := by
  by_cases hs : s.size ≤ 4096
  · obtain ⟨b1, b2⟩ := bounds_u64 wa.1
    obtain ⟨b3, b4⟩ := bounds_u64 wa.2
    obtain ⟨hi, rfl⟩ := Int.eq_ofNat_of_zero_le b1
    obtain ⟨lo, rfl⟩ := Int.eq_ofNat_of_zero_le b3
    obtain ⟨q0, q1, ee, h8, h12, hq⟩ := parse_again s (by omega)
    exact back_walk hi lo q0 q1 ee s (mkB (prA hi lo)) w (by omega) hl hp (fun w hv => print_calls hi lo (by omega) (by omega) w hv) (fun w hl hp => print_again hi lo (by omega) (by omega) w hl hp) h8 h12 hq
  · exact back_long a0 a1 s w (by omega)
/-- As the row takes it. -/
theorem addrBack_card (a0 a1 : Int) (s : ByteArray) (w : World) (wa : (Lit.int .u64 a0).wf = true ∧ (Lit.int .u64 a1).wf = true) (_ : s.size ≤ 140737488351232) (hv : LibVars w ∧ PrVars w) :
    Calls Tryd.prog 5 #[.agg #[.int .u64 a0, .int .u64 a1], .string s] w fun e w' => e = .returned (.bool true) ∧ Below w.heap.size w w' := addrBack_true a0 a1 s w wa hv.1 hv.2
end Go.Proofs.YtgbkeciimddpnaaDoor.Print
