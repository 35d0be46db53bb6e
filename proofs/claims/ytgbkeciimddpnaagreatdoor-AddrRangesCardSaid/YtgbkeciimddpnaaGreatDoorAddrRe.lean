/-
Ranges in text: the reference's ParseRange.
Conditions: none.
-/
import Derived.Test.YtgbkeciimddpnaaGreatDoorAddrRd
import Derived.Deep.RegionHeld3
namespace Go.Proofs.YtgbkeciimddpnaaGreatDoor.Ranges
open Go Go.RowKit Go.Proofs.YtgbkeciimddpnaaGreatDoorW.PrintWords Go.Proofs.YtgbkeciimddpnaaGreatDoor.Print Go.Proofs.YtgbkeciimddpnaaGreatDoor.AddrP
set_option maxHeartbeats 1600000 in
theorem rr_plain (s : ByteArray) (x0 x1 e : Int) (w : World)
    (h17 : ∀ w, Calls Tryz.prog 21 #[.string s, .int .u8 47] w fun e w' => e = .returned (.int .i64 (-1)) ∧ Drawn0 w w') 
    (h17b : ∀ w, Calls Tryz.prog 21 #[.string s, .int .u8 45] w fun e w' => e = .returned (.int .i64 (-1)) ∧ Drawn0 w w')
    (h18 : ∀ w, Calls Tryz.prog 22 #[.string s] w fun e' w' => e' = .returned (.tuple #[.agg #[.int .u64 x0, .int .u64 x1], .int .i64 e]) ∧ Below w.heap.size w w') :
    Calls Tryz.prog 8 #[.string s] w fun e' w' => e' = .returned (.tuple #[.agg #[.int .u64 x0, .int .u64 x1, .int .u64 x0, .int .u64 x1], .int .i64 e]) ∧ Below w.heap.size w w' := by
  have H17 := Lib.hid h17
  have H17b := Lib.hid h17b
  have H18 := Lib.hid h18
  clear h17 h17b h18
  go_enter Tryz.func8, Tryz.ntmps8
  go_wp2_with fail
  refine (H17.out _).mono ?_
  rintro e' w1 ⟨rfl, hd⟩
  have hB0 := bnext (ba1 w (.cells #[.int .u64 0, .int .u64 0, .int .u64 0, .int .u64 0] 26)) hd.below
  have hR0 := (resR_new w 26).below hd.below
  clear hd
  go_wp2_with fail
  refine (H17b.out _).mono ?_
  rintro e' w2 ⟨rfl, hd⟩
  have hB1 := bnext hB0 hd.below
  have hR1 := hR0.below hd.below
  clear hd hB0 hR0
  go_wp2_with fail
  refine (H18.out _).mono ?_
  rintro e' w3 ⟨rfl, hb3⟩
  have hB3 := ba (bnext hB1 hb3) (.cells #[.int .u64 x0, .int .u64 x1] 24)
  have hR3 := (hR1.below hb3).below (ba1 w3 (.cells #[.int .u64 x0, .int .u64 x1] 24))
  obtain ⟨z0, z1⟩ := box2_new w3 x0 x1 24
  have hlt1 : w.heap.size + 1 ≤ w3.heap.size := Nat.le_trans (lt_of_cell hR1.c0) hb3.size
  clear hB1 hR1 hb3
  obtain ⟨W, hW, s0, s1, s2, s3⟩ := resR_set hR3 x0 x1 x0 x1
  have HB' := setBelow4 hB3 (Nat.le_refl w.heap.size) (.int .u64 x0) (.int .u64 x1) (.int .u64 x0) (.int .u64 x1)
  obtain ⟨c0, c1, c2, c3, f0, f1, f2, f3⟩ := hR3
  go_wp2_with fail
  rw [← hW] at HB' ⊢
  exact bodyPost_ret (v := .tuple #[.agg #[.int .u64 x0, .int .u64 x1, .int .u64 x0, .int .u64 x1], .int .i64 e]) (by simp [results, Tryz.results8, go_sem, s0, s1, s2, s3]) rfl ⟨rfl, HB'⟩
set_option maxHeartbeats 1600000 in
theorem rr_slash (s : ByteArray) (i : Nat) (x0 x1 e nn r0 r1 r2 r3 re q0 q1 q2 q3 qe : Int) (w : World) (hi : i < s.size) (hs : s.size ≤ 4096)
    (hq : Hid (((e != 0) = true ∧ q0 = 0 ∧ q1 = 0 ∧ q2 = 0 ∧ q3 = 0 ∧ qe = e) ∨ (e = 0 ∧ nn < 0 ∧ q0 = 0 ∧ q1 = 0 ∧ q2 = 0 ∧ q3 = 0 ∧ qe = 31) ∨ (e = 0 ∧ ¬ nn < 0 ∧ q0 = r0 ∧ q1 = r1 ∧ q2 = r2 ∧ q3 = r3 ∧ qe = re)))
    (h17 : ∀ w, Calls Tryz.prog 21 #[.string s, .int .u8 47] w fun e w' => e = .returned (.int .i64 i) ∧ Drawn0 w w')
    (h18 : ∀ w, Calls Tryz.prog 22 #[.string (s.extract 0 i)] w fun e' w' => e' = .returned (.tuple #[.agg #[.int .u64 x0, .int .u64 x1], .int .i64 e]) ∧ Below w.heap.size w w')
    (h19 : ∀ w, Calls Tryz.prog 23 #[.string (s.extract (i + 1) s.size)] w fun e' w' => e' = .returned (.int .i64 nn) ∧ Below w.heap.size w w')
    (h5 : ∀ w, Calls Tryz.prog 6 #[.agg #[.int .u64 x0, .int .u64 x1], .int .i64 nn] w fun e' w' => e' = .returned (.tuple #[.agg #[.int .u64 r0, .int .u64 r1, .int .u64 r2, .int .u64 r3], .int .i64 re]) ∧ Below w.heap.size w w') :
    Calls Tryz.prog 8 #[.string s] w fun e' w' => e' = .returned (.tuple #[.agg #[.int .u64 q0, .int .u64 q1, .int .u64 q2, .int .u64 q3], .int .i64 qe]) ∧ Below w.heap.size w w' := by
  have H17 := Lib.hid h17
  have H18 := Lib.hid h18
  have H19 := Lib.hid h19
  have H5 := Lib.hid h5
  clear h17 h18 h19 h5
  go_enter Tryz.func8, Tryz.ntmps8
  go_wp2_with fail
  refine (H17.out _).mono ?_
  rintro e' w1 ⟨rfl, hd⟩
  have hB0 := bnext (ba1 w (.cells #[.int .u64 0, .int .u64 0, .int .u64 0, .int .u64 0] 26)) hd.below
  have hR0 := (resR_new w 26).below hd.below
  clear hd
  go_wp2_with fail
  refine (H18.out _).mono ?_
  rintro e' w3 ⟨rfl, hb3⟩
  have hB1 := ba (bnext hB0 hb3) (.cells #[.int .u64 x0, .int .u64 x1] 24)
  have hR1 := (hR0.below hb3).below (ba1 w3 (.cells #[.int .u64 x0, .int .u64 x1] 24))
  have hX1 := box2_new w3 x0 x1 24
  have hlt1 : w.heap.size + 1 ≤ w3.heap.size := Nat.le_trans (lt_of_cell hR0.c0) hb3.size
  clear hB0 hR0 hb3
  rcases hq.out with ⟨he, rfl, rfl, rfl, rfl, rfl⟩ | ⟨rfl, hn, rfl, rfl, rfl, rfl, rfl⟩ | ⟨rfl, hn, rfl, rfl, rfl, rfl, rfl⟩
  · obtain ⟨W, hW, s0, s1, s2, s3⟩ := resR_set hR1 0 0 0 0
    have HB' := setBelow4 hB1 (Nat.le_refl w.heap.size) (.int .u64 0) (.int .u64 0) (.int .u64 0) (.int .u64 0)
    obtain ⟨c0, c1, c2, c3, f0, f1, f2, f3⟩ := hR1
    obtain ⟨z0, z1⟩ := hX1
    go_wp2_with fail
    rw [← hW] at HB' ⊢
    exact bodyPost_ret (v := .tuple #[.agg #[.int .u64 0, .int .u64 0, .int .u64 0, .int .u64 0], .int .i64 qe]) (by simp [results, Tryz.results8, go_sem, s0, s1, s2, s3]) rfl ⟨rfl, HB'⟩
  · obtain ⟨c0, c1, c2, c3, f0, f1, f2, f3⟩ := hR1
    go_wp2_with fail
    generalize w3.heap.size = b1_ at hX1 hlt1 ⊢
    generalize w3.alloc (.cells #[.int .u64 x0, .int .u64 x1] 24) = w4 at hB1 hX1 c0 c1 c2 c3 f0 f1 f2 f3 ⊢
    refine (H19.out _).mono ?_
    rintro e' w5 ⟨rfl, hb5⟩
    have hB5 := bnext hB1 hb5
    have hR5 := (ResR.mk c0 c1 c2 c3 f0 f1 f2 f3).below hb5
    obtain ⟨y0, y1⟩ := hX1.below hb5
    clear hB1 hb5 c0 c1 c2 c3 f0 f1 f2 f3 hX1
    obtain ⟨W, hW, s0, s1, s2, s3⟩ := resR_set hR5 0 0 0 0
    have HB' := setBelow4 hB5 (Nat.le_refl w.heap.size) (.int .u64 0) (.int .u64 0) (.int .u64 0) (.int .u64 0)
    obtain ⟨c0, c1, c2, c3, f0, f1, f2, f3⟩ := hR5
    go_wp2_with fail
    rw [← hW] at HB' ⊢
    exact bodyPost_ret (v := .tuple #[.agg #[.int .u64 0, .int .u64 0, .int .u64 0, .int .u64 0], .int .i64 31]) (by simp [results, Tryz.results8, go_sem, s0, s1, s2, s3]) rfl ⟨rfl, HB'⟩
  · obtain ⟨c0, c1, c2, c3, f0, f1, f2, f3⟩ := hR1
    go_wp2_with fail
    generalize w3.heap.size = b1_ at hX1 hlt1 ⊢
    generalize w3.alloc (.cells #[.int .u64 x0, .int .u64 x1] 24) = w4 at hB1 hX1 c0 c1 c2 c3 f0 f1 f2 f3 ⊢
    refine (H19.out _).mono ?_
    rintro e' w5 ⟨rfl, hb5⟩
    have hB5 := bnext hB1 hb5
    have hR5 := (ResR.mk c0 c1 c2 c3 f0 f1 f2 f3).below hb5
    obtain ⟨y0, y1⟩ := hX1.below hb5
    clear hB1 hb5 c0 c1 c2 c3 f0 f1 f2 f3 hX1
    obtain ⟨c0, c1, c2, c3, f0, f1, f2, f3⟩ := hR5
    go_wp2_with fail
    refine (H5.out _).mono ?_
    rintro e' w6 ⟨rfl, hb6⟩
    have hB6 := bnext hB5 hb6
    have hR6 := (ResR.mk c0 c1 c2 c3 f0 f1 f2 f3).below hb6
    clear hB5 hb6 c0 c1 c2 c3 f0 f1 f2 f3 y0 y1
    obtain ⟨W, hW, s0, s1, s2, s3⟩ := resR_set hR6 q0 q1 q2 q3
    have HB' := setBelow4 hB6 (Nat.le_refl w.heap.size) (.int .u64 q0) (.int .u64 q1) (.int .u64 q2) (.int .u64 q3)
    obtain ⟨c0, c1, c2, c3, f0, f1, f2, f3⟩ := hR6
    go_wp2_with fail
    rw [← hW] at HB' ⊢
    exact bodyPost_ret (v := .tuple #[.agg #[.int .u64 q0, .int .u64 q1, .int .u64 q2, .int .u64 q3], .int .i64 qe]) (by simp [results, Tryz.results8, go_sem, s0, s1, s2, s3]) rfl ⟨rfl, HB'⟩
set_option maxRecDepth 100000 in
set_option maxHeartbeats 6400000 in
theorem rr_dash (s : ByteArray) (i : Nat) (x0 x1 e y0 y1 f q0 q1 q2 q3 qe : Int) (b1 b2 lv : Bool) (w : World) (hi : i < s.size) (hs : s.size ≤ 4096)
    (hq : Hid (((e != 0) = true ∧ q0 = 0 ∧ q1 = 0 ∧ q2 = 0 ∧ q3 = 0 ∧ qe = 30) ∨ (e = 0 ∧ (f != 0) = true ∧ q0 = 0 ∧ q1 = 0 ∧ q2 = 0 ∧ q3 = 0 ∧ qe = 30) ∨ (e = 0 ∧ f = 0 ∧ b1 = !b2 ∧ q0 = 0 ∧ q1 = 0 ∧ q2 = 0 ∧ q3 = 0 ∧ qe = 31) ∨
      (e = 0 ∧ f = 0 ∧ b1 = b2 ∧ lv = true ∧ q0 = 0 ∧ q1 = 0 ∧ q2 = 0 ∧ q3 = 0 ∧ qe = 31) ∨ (e = 0 ∧ f = 0 ∧ b1 = b2 ∧ lv = false ∧ x0 = q0 ∧ x1 = q1 ∧ y0 = q2 ∧ y1 = q3 ∧ qe = 0)))
    (h17 : ∀ w, Calls Tryz.prog 21 #[.string s, .int .u8 47] w fun e w' => e = .returned (.int .i64 (-1)) ∧ Drawn0 w w')
    (h17b : ∀ w, Calls Tryz.prog 21 #[.string s, .int .u8 45] w fun e w' => e = .returned (.int .i64 i) ∧ Drawn0 w w')
    (h18 : ∀ w, Calls Tryz.prog 22 #[.string (s.extract 0 i)] w fun e' w' => e' = .returned (.tuple #[.agg #[.int .u64 x0, .int .u64 x1], .int .i64 e]) ∧ Below w.heap.size w w')
    (h18b : ∀ w, Calls Tryz.prog 22 #[.string (s.extract (i + 1) s.size)] w fun e' w' => e' = .returned (.tuple #[.agg #[.int .u64 y0, .int .u64 y1], .int .i64 f]) ∧ Below w.heap.size w w')
    (h13 : ∀ w, Calls Tryz.prog 15 #[.agg #[.int .u64 x0, .int .u64 x1]] w fun e' w' => e' = .returned (.bool b1) ∧ Below w.heap.size w w')
    (h13b : ∀ w, Calls Tryz.prog 15 #[.agg #[.int .u64 y0, .int .u64 y1]] w fun e' w' => e' = .returned (.bool b2) ∧ Below w.heap.size w w')
    (h20 : ∀ w, Calls Tryz.prog 24 #[.agg #[.int .u64 y0, .int .u64 y1], .agg #[.int .u64 x0, .int .u64 x1]] w fun e' w' => e' = .returned (.bool lv) ∧ Below w.heap.size w w') :
    Calls Tryz.prog 8 #[.string s] w fun e' w' => e' = .returned (.tuple #[.agg #[.int .u64 q0, .int .u64 q1, .int .u64 q2, .int .u64 q3], .int .i64 qe]) ∧ Below w.heap.size w w' := by
  have H17 := Lib.hid h17
  have H17b := Lib.hid h17b
  have H18 := Lib.hid h18
  have H18b := Lib.hid h18b
  have H13 := Lib.hid h13
  have H13b := Lib.hid h13b
  have H20 := Lib.hid h20
  clear h17 h17b h18 h18b h13 h13b h20
  go_enter Tryz.func8, Tryz.ntmps8
  go_wp2_with fail
  refine (H17.out _).mono ?_
  rintro e' w1 ⟨rfl, hd⟩
  have hB0 := bnext (ba1 w (.cells #[.int .u64 0, .int .u64 0, .int .u64 0, .int .u64 0] 26)) hd.below
  have hR0 := (resR_new w 26).below hd.below
  clear hd
  go_wp2_with fail
  refine (H17b.out _).mono ?_
  rintro e' w2 ⟨rfl, hd⟩
  have hBd := bnext hB0 hd.below
  have hRd := hR0.below hd.below
  clear hd hB0 hR0
  go_wp2_with fail
  refine (H18.out _).mono ?_
  rintro e' wa ⟨rfl, hb1⟩
  have hB1 := ba (bnext hBd hb1) (.cells #[.int .u64 x0, .int .u64 x1] 24)
  have hR1 := (hRd.below hb1).below (ba1 wa (.cells #[.int .u64 x0, .int .u64 x1] 24))
  have hX1 := box2_new wa x0 x1 24
  have hlt1 : w.heap.size + 1 ≤ wa.heap.size := Nat.le_trans (lt_of_cell hRd.c0) hb1.size
  clear hBd hRd hb1
  go_wp2_with fail
  generalize hb1_ : wa.heap.size = b1_ at hX1 hlt1 ⊢
  generalize wa.alloc (.cells #[.int .u64 x0, .int .u64 x1] 24) = wb at hB1 hR1 hX1 ⊢
  clear hb1_
  refine (H18b.out _).mono ?_
  rintro e' w3 ⟨rfl, hb3⟩
  have hB3 := ba (bnext hB1 hb3) (.cells #[.int .u64 y0, .int .u64 y1] 24)
  have hR3 := (hR1.below hb3).below (ba1 w3 (.cells #[.int .u64 y0, .int .u64 y1] 24))
  have hX3 := (hX1.below hb3).below (ba1 w3 (.cells #[.int .u64 y0, .int .u64 y1] 24))
  have hY3 := box2_new w3 y0 y1 24
  have hlt3 : b1_ + 1 ≤ w3.heap.size := Nat.le_trans (lt_of_cell hX1.c0) hb3.size
  clear hB1 hR1 hb3 hX1
  rcases hq.out with ⟨he, rfl, rfl, rfl, rfl, rfl⟩ | ⟨rfl, he, rfl, rfl, rfl, rfl, rfl⟩ | ⟨rfl, rfl, hb, rfl, rfl, rfl, rfl, rfl⟩ | ⟨rfl, rfl, hb, hv, rfl, rfl, rfl, rfl, rfl⟩ | ⟨rfl, rfl, hb, hv, rfl, rfl, rfl, rfl, rfl⟩
  · obtain ⟨W, hW, s0, s1, s2, s3⟩ := resR_set hR3 0 0 0 0
    have HB' := setBelow4 hB3 (Nat.le_refl w.heap.size) (.int .u64 0) (.int .u64 0) (.int .u64 0) (.int .u64 0)
    obtain ⟨c0, c1, c2, c3, f0, f1, f2, f3⟩ := hR3
    obtain ⟨p0, p1⟩ := hX3
    obtain ⟨r0, r1⟩ := hY3
    go_wp2_with fail
    rw [← hW] at HB' ⊢
    exact bodyPost_ret (v := .tuple #[.agg #[.int .u64 0, .int .u64 0, .int .u64 0, .int .u64 0], .int .i64 30]) (by simp [results, Tryz.results8, go_sem, s0, s1, s2, s3]) rfl ⟨rfl, HB'⟩
  · obtain ⟨W, hW, s0, s1, s2, s3⟩ := resR_set hR3 0 0 0 0
    have HB' := setBelow4 hB3 (Nat.le_refl w.heap.size) (.int .u64 0) (.int .u64 0) (.int .u64 0) (.int .u64 0)
    obtain ⟨c0, c1, c2, c3, f0, f1, f2, f3⟩ := hR3
    obtain ⟨p0, p1⟩ := hX3
    obtain ⟨r0, r1⟩ := hY3
    go_wp2_with fail
    rw [← hW] at HB' ⊢
    exact bodyPost_ret (v := .tuple #[.agg #[.int .u64 0, .int .u64 0, .int .u64 0, .int .u64 0], .int .i64 30]) (by simp [results, Tryz.results8, go_sem, s0, s1, s2, s3]) rfl ⟨rfl, HB'⟩
  · cases b1 <;> cases b2 <;> first | cases hb | skip
    all_goals
      obtain ⟨p0, p1⟩ := hX3
      obtain ⟨r0, r1⟩ := hY3
      obtain ⟨c0, c1, c2, c3, f0, f1, f2, f3⟩ := hR3
      go_wp2_with fail
      have hS : RS w b1_ w3.heap.size x0 x1 y0 y1 (w3.alloc (.cells #[.int .u64 y0, .int .u64 y1] 24)) := ⟨hB3, ⟨c0, c1, c2, c3, f0, f1, f2, f3⟩, p0, p1, r0, r1⟩
      generalize w3.heap.size = b3 at hlt3 hS ⊢
      generalize w3.alloc (.cells #[.int .u64 y0, .int .u64 y1] 24) = w4 at hS ⊢
      clear hB3 c0 c1 c2 c3 f0 f1 f2 f3 p0 p1 r0 r1
      try simp only [List.append_eq, List.cons_append, List.nil_append]
      refine wp_region_held_drew (S := RS w b1_ b3 x0 x1 y0 y1) (by kernel_rfl) (RS_below hS (Below.drew (Below.refl _ _))) (fun hH => ?_)
      refine wpAnyH_take (i := 0) (oi := { dst := some 68, op := Op.load 24 (Operand.tmp 8), type := 24, pos := "ref.go:262", after := #[], guard := none }) (v := ?_) rfl (by kernel_rfl) (by kernel_rfl) (by kernel_rfl) (fun _ _ _ h => h) (Or.inl ⟨by rfl, ?_⟩) hH ?_
      rotate_left
      · intro w hSw
        obtain ⟨y0, y1, y2, y3, y4, y5⟩ := hSw
        first | (go_simp; done) | (go_simp; with_reducible rfl)
      try simp only [Act.put, List.setIfInBounds_toArray, List.set_cons_zero, List.set_cons_succ]
      refine wpAnyH_take (i := 2) (oi := { dst := some 70, op := Op.load 24 (Operand.tmp 10), type := 24, pos := "ref.go:262", after := #[], guard := none }) (v := ?_) rfl (by kernel_rfl) (by kernel_rfl) (by kernel_rfl) (fun _ _ _ h => h) (Or.inl ⟨by rfl, ?_⟩) hH ?_
      rotate_left
      · intro w hSw
        obtain ⟨y0, y1, y2, y3, y4, y5⟩ := hSw
        first | (go_simp; done) | (go_simp; with_reducible rfl)
      try simp only [Act.put, List.setIfInBounds_toArray, List.set_cons_zero, List.set_cons_succ]
      refine wpAnyH_ready (rs := [1]) (by kernel_rfl) (by simp) ?_
      refine AllReadyH.cons (o := { dst := some 69, op := Op.call { callee := Callee.value (Operand.func 15), args := #[Operand.tmp 68], argTypes := #[24] }, type := 4, pos := "ref.go:262", after := #[{ on := 0, ground := Ground.data }], guard := none }) rfl (fun K hK => ?_) AllReadyH.nil
      go_simp
      refine (H13.out _).mono ?_
      rintro e wn ⟨rfl, hb⟩
      go_wp2_with fail
      refine hK.out _ _ (RS_below hH hb) (fun hH2 => ?_)
      clear hK K hH hb
      have hH := hH2
      clear hH2
      try simp only [Act.put, List.setIfInBounds_toArray, List.set_cons_zero, List.set_cons_succ]
      refine wpAnyH_ready (rs := [3]) (by kernel_rfl) (by simp) ?_
      refine AllReadyH.cons (o := { dst := some 71, op := Op.call { callee := Callee.value (Operand.func 15), args := #[Operand.tmp 70], argTypes := #[24] }, type := 4, pos := "ref.go:262", after := #[{ on := 2, ground := Ground.data }, { on := 1, ground := Ground.chain }], guard := none }) rfl (fun K hK => ?_) AllReadyH.nil
      go_simp
      refine (H13b.out _).mono ?_
      rintro e wn ⟨rfl, hb⟩
      go_wp2_with fail
      refine hK.out _ _ (RS_below hH hb) (fun hH2 => ?_)
      clear hK K hH hb
      have hH := hH2
      clear hH2
      try simp only [Act.put, List.setIfInBounds_toArray, List.set_cons_zero, List.set_cons_succ]
      refine wpAnyH_take (i := 4) (oi := { dst := some 72, op := Op.binOp BinOp.neq 4 (Operand.tmp 69) (Operand.tmp 71) 4, type := 4, pos := "ref.go:262", after := #[{ on := 1, ground := Ground.data }, { on := 3, ground := Ground.data }], guard := none }) (v := ?_) rfl (by kernel_rfl) (by kernel_rfl) (by kernel_rfl) (fun _ _ _ h => h) (Or.inl ⟨by rfl, ?_⟩) hH ?_
      rotate_left
      · intro w hSw
        obtain ⟨y0, y1, y2, y3, y4, y5⟩ := hSw
        first | (go_simp; done) | (go_simp; with_reducible rfl)
      try simp only [Act.put, List.setIfInBounds_toArray, List.set_cons_zero, List.set_cons_succ]
      refine wpAnyH_take (i := 5) (oi := { dst := some 73, op := Op.move (Operand.tmp 72), type := 4, pos := "ref.go:262", after := #[{ on := 4, ground := Ground.data }, { on := 3, ground := Ground.chain }], guard := none }) (v := ?_) rfl (by kernel_rfl) (by kernel_rfl) (by kernel_rfl) (fun _ _ _ h => h) (Or.inl ⟨by rfl, ?_⟩) hH ?_
      rotate_left
      · intro w hSw
        obtain ⟨y0, y1, y2, y3, y4, y5⟩ := hSw
        first | (go_simp; done) | (go_simp; with_reducible rfl)
      try simp only [Act.put, List.setIfInBounds_toArray, List.set_cons_zero, List.set_cons_succ]
      refine wpAnyH_take (i := 6) (oi := { dst := some 74, op := Op.load 24 (Operand.tmp 10), type := 24, pos := "ref.go:262", after := #[{ on := 5, ground := Ground.guard }], guard := some (5, false) }) (v := undef) rfl (by kernel_rfl) (by kernel_rfl) (by kernel_rfl) (fun _ _ _ h => h) (Or.inr ⟨by rfl, rfl⟩) hH ?_
      try simp only [Act.put, List.setIfInBounds_toArray, List.set_cons_zero, List.set_cons_succ]
      refine wpAnyH_take (i := 7) (oi := { dst := some 75, op := Op.load 24 (Operand.tmp 8), type := 24, pos := "ref.go:262", after := #[{ on := 5, ground := Ground.guard }], guard := some (5, false) }) (v := undef) rfl (by kernel_rfl) (by kernel_rfl) (by kernel_rfl) (fun _ _ _ h => h) (Or.inr ⟨by rfl, rfl⟩) hH ?_
      try simp only [Act.put, List.setIfInBounds_toArray, List.set_cons_zero, List.set_cons_succ]
      refine wpAnyH_take (i := 8) (oi := { dst := some 76, op := Op.call { callee := Callee.value (Operand.func 24), args := #[Operand.tmp 74, Operand.tmp 75], argTypes := #[24, 24] }, type := 4, pos := "ref.go:262", after := #[{ on := 6, ground := Ground.data }, { on := 7, ground := Ground.data }, { on := 5, ground := Ground.chain }, { on := 5, ground := Ground.guard }], guard := some (5, false) }) (v := undef) rfl (by kernel_rfl) (by kernel_rfl) (by kernel_rfl) (fun _ _ _ h => h) (Or.inr ⟨by rfl, rfl⟩) hH ?_
      try simp only [Act.put, List.setIfInBounds_toArray, List.set_cons_zero, List.set_cons_succ]
      refine wpAnyH_take (i := 9) (oi := { dst := some 77, op := Op.pick (Operand.tmp 73) (Operand.const (Value.bool true)) (Operand.tmp 76), type := 4, pos := "ref.go:262", after := #[{ on := 5, ground := Ground.data }, { on := 8, ground := Ground.data }], guard := none }) (v := ?_) rfl (by kernel_rfl) (by kernel_rfl) (by kernel_rfl) (fun _ _ _ h => h) (Or.inl ⟨by rfl, ?_⟩) hH ?_
      rotate_left
      · intro w hSw
        obtain ⟨y0, y1, y2, y3, y4, y5⟩ := hSw
        first | (go_simp; done) | (go_simp; with_reducible rfl)
      try simp only [Act.put, List.setIfInBounds_toArray, List.set_cons_zero, List.set_cons_succ]
      refine wpAnyH_done (by kernel_rfl) ?_ _
      have hBB := hH.1
      have hRR := hH.2.1
      obtain ⟨W, hW, s0, s1, s2, s3⟩ := resR_set hRR 0 0 0 0
      have HB' := setBelow4 hBB (Nat.le_refl w.heap.size) (.int .u64 0) (.int .u64 0) (.int .u64 0) (.int .u64 0)
      obtain ⟨_, _, m0, m1, m2, m3⟩ := hH
      obtain ⟨c0, c1, c2, c3, f0, f1, f2, f3⟩ := hRR
      go_wp2_with fail
      rw [← hW] at HB' ⊢
      exact bodyPost_ret (v := .tuple #[.agg #[.int .u64 0, .int .u64 0, .int .u64 0, .int .u64 0], .int .i64 31]) (by simp [results, Tryz.results8, go_sem, s0, s1, s2, s3]) rfl ⟨rfl, HB'⟩
  · subst hv
    cases b1 <;> cases b2 <;> first | cases hb | skip
    all_goals
      obtain ⟨p0, p1⟩ := hX3
      obtain ⟨r0, r1⟩ := hY3
      obtain ⟨c0, c1, c2, c3, f0, f1, f2, f3⟩ := hR3
      go_wp2_with fail
      have hS : RS w b1_ w3.heap.size x0 x1 y0 y1 (w3.alloc (.cells #[.int .u64 y0, .int .u64 y1] 24)) := ⟨hB3, ⟨c0, c1, c2, c3, f0, f1, f2, f3⟩, p0, p1, r0, r1⟩
      generalize w3.heap.size = b3 at hlt3 hS ⊢
      generalize w3.alloc (.cells #[.int .u64 y0, .int .u64 y1] 24) = w4 at hS ⊢
      clear hB3 c0 c1 c2 c3 f0 f1 f2 f3 p0 p1 r0 r1
      try simp only [List.append_eq, List.cons_append, List.nil_append]
      refine wp_region_held_drew (S := RS w b1_ b3 x0 x1 y0 y1) (by kernel_rfl) (RS_below hS (Below.drew (Below.refl _ _))) (fun hH => ?_)
      refine wpAnyH_take (i := 0) (oi := { dst := some 68, op := Op.load 24 (Operand.tmp 8), type := 24, pos := "ref.go:262", after := #[], guard := none }) (v := ?_) rfl (by kernel_rfl) (by kernel_rfl) (by kernel_rfl) (fun _ _ _ h => h) (Or.inl ⟨by rfl, ?_⟩) hH ?_
      rotate_left
      · intro w hSw
        obtain ⟨y0, y1, y2, y3, y4, y5⟩ := hSw
        first | (go_simp; done) | (go_simp; with_reducible rfl)
      try simp only [Act.put, List.setIfInBounds_toArray, List.set_cons_zero, List.set_cons_succ]
      refine wpAnyH_take (i := 2) (oi := { dst := some 70, op := Op.load 24 (Operand.tmp 10), type := 24, pos := "ref.go:262", after := #[], guard := none }) (v := ?_) rfl (by kernel_rfl) (by kernel_rfl) (by kernel_rfl) (fun _ _ _ h => h) (Or.inl ⟨by rfl, ?_⟩) hH ?_
      rotate_left
      · intro w hSw
        obtain ⟨y0, y1, y2, y3, y4, y5⟩ := hSw
        first | (go_simp; done) | (go_simp; with_reducible rfl)
      try simp only [Act.put, List.setIfInBounds_toArray, List.set_cons_zero, List.set_cons_succ]
      refine wpAnyH_ready (rs := [1]) (by kernel_rfl) (by simp) ?_
      refine AllReadyH.cons (o := { dst := some 69, op := Op.call { callee := Callee.value (Operand.func 15), args := #[Operand.tmp 68], argTypes := #[24] }, type := 4, pos := "ref.go:262", after := #[{ on := 0, ground := Ground.data }], guard := none }) rfl (fun K hK => ?_) AllReadyH.nil
      go_simp
      refine (H13.out _).mono ?_
      rintro e wn ⟨rfl, hb⟩
      go_wp2_with fail
      refine hK.out _ _ (RS_below hH hb) (fun hH2 => ?_)
      clear hK K hH hb
      have hH := hH2
      clear hH2
      try simp only [Act.put, List.setIfInBounds_toArray, List.set_cons_zero, List.set_cons_succ]
      refine wpAnyH_ready (rs := [3]) (by kernel_rfl) (by simp) ?_
      refine AllReadyH.cons (o := { dst := some 71, op := Op.call { callee := Callee.value (Operand.func 15), args := #[Operand.tmp 70], argTypes := #[24] }, type := 4, pos := "ref.go:262", after := #[{ on := 2, ground := Ground.data }, { on := 1, ground := Ground.chain }], guard := none }) rfl (fun K hK => ?_) AllReadyH.nil
      go_simp
      refine (H13b.out _).mono ?_
      rintro e wn ⟨rfl, hb⟩
      go_wp2_with fail
      refine hK.out _ _ (RS_below hH hb) (fun hH2 => ?_)
      clear hK K hH hb
      have hH := hH2
      clear hH2
      try simp only [Act.put, List.setIfInBounds_toArray, List.set_cons_zero, List.set_cons_succ]
      refine wpAnyH_take (i := 4) (oi := { dst := some 72, op := Op.binOp BinOp.neq 4 (Operand.tmp 69) (Operand.tmp 71) 4, type := 4, pos := "ref.go:262", after := #[{ on := 1, ground := Ground.data }, { on := 3, ground := Ground.data }], guard := none }) (v := ?_) rfl (by kernel_rfl) (by kernel_rfl) (by kernel_rfl) (fun _ _ _ h => h) (Or.inl ⟨by rfl, ?_⟩) hH ?_
      rotate_left
      · intro w hSw
        obtain ⟨y0, y1, y2, y3, y4, y5⟩ := hSw
        first | (go_simp; done) | (go_simp; with_reducible rfl)
      try simp only [Act.put, List.setIfInBounds_toArray, List.set_cons_zero, List.set_cons_succ]
      refine wpAnyH_take (i := 5) (oi := { dst := some 73, op := Op.move (Operand.tmp 72), type := 4, pos := "ref.go:262", after := #[{ on := 4, ground := Ground.data }, { on := 3, ground := Ground.chain }], guard := none }) (v := ?_) rfl (by kernel_rfl) (by kernel_rfl) (by kernel_rfl) (fun _ _ _ h => h) (Or.inl ⟨by rfl, ?_⟩) hH ?_
      rotate_left
      · intro w hSw
        obtain ⟨y0, y1, y2, y3, y4, y5⟩ := hSw
        first | (go_simp; done) | (go_simp; with_reducible rfl)
      try simp only [Act.put, List.setIfInBounds_toArray, List.set_cons_zero, List.set_cons_succ]
      refine wpAnyH_take (i := 6) (oi := { dst := some 74, op := Op.load 24 (Operand.tmp 10), type := 24, pos := "ref.go:262", after := #[{ on := 5, ground := Ground.guard }], guard := some (5, false) }) (v := ?_) rfl (by kernel_rfl) (by kernel_rfl) (by kernel_rfl) (fun _ _ _ h => h) (Or.inl ⟨by rfl, ?_⟩) hH ?_
      rotate_left
      · intro w hSw
        obtain ⟨y0, y1, y2, y3, y4, y5⟩ := hSw
        first | (go_simp; done) | (go_simp; with_reducible rfl)
      try simp only [Act.put, List.setIfInBounds_toArray, List.set_cons_zero, List.set_cons_succ]
      refine wpAnyH_take (i := 7) (oi := { dst := some 75, op := Op.load 24 (Operand.tmp 8), type := 24, pos := "ref.go:262", after := #[{ on := 5, ground := Ground.guard }], guard := some (5, false) }) (v := ?_) rfl (by kernel_rfl) (by kernel_rfl) (by kernel_rfl) (fun _ _ _ h => h) (Or.inl ⟨by rfl, ?_⟩) hH ?_
      rotate_left
      · intro w hSw
        obtain ⟨y0, y1, y2, y3, y4, y5⟩ := hSw
        first | (go_simp; done) | (go_simp; with_reducible rfl)
      try simp only [Act.put, List.setIfInBounds_toArray, List.set_cons_zero, List.set_cons_succ]
      refine wpAnyH_ready (rs := [8]) (by kernel_rfl) (by simp) ?_
      refine AllReadyH.cons (o := { dst := some 76, op := Op.call { callee := Callee.value (Operand.func 24), args := #[Operand.tmp 74, Operand.tmp 75], argTypes := #[24, 24] }, type := 4, pos := "ref.go:262", after := #[{ on := 6, ground := Ground.data }, { on := 7, ground := Ground.data }, { on := 5, ground := Ground.chain }, { on := 5, ground := Ground.guard }], guard := some (5, false) }) rfl (fun K hK => ?_) AllReadyH.nil
      go_simp
      refine (H20.out _).mono ?_
      rintro e wn ⟨rfl, hb⟩
      go_wp2_with fail
      refine hK.out _ _ (RS_below hH hb) (fun hH2 => ?_)
      clear hK K hH hb
      have hH := hH2
      clear hH2
      try simp only [Act.put, List.setIfInBounds_toArray, List.set_cons_zero, List.set_cons_succ]
      refine wpAnyH_take (i := 9) (oi := { dst := some 77, op := Op.pick (Operand.tmp 73) (Operand.const (Value.bool true)) (Operand.tmp 76), type := 4, pos := "ref.go:262", after := #[{ on := 5, ground := Ground.data }, { on := 8, ground := Ground.data }], guard := none }) (v := ?_) rfl (by kernel_rfl) (by kernel_rfl) (by kernel_rfl) (fun _ _ _ h => h) (Or.inl ⟨by rfl, ?_⟩) hH ?_
      rotate_left
      · intro w hSw
        obtain ⟨y0, y1, y2, y3, y4, y5⟩ := hSw
        first | (go_simp; done) | (go_simp; with_reducible rfl)
      try simp only [Act.put, List.setIfInBounds_toArray, List.set_cons_zero, List.set_cons_succ]
      refine wpAnyH_done (by kernel_rfl) ?_ _
      have hBB := hH.1
      have hRR := hH.2.1
      obtain ⟨W, hW, s0, s1, s2, s3⟩ := resR_set hRR 0 0 0 0
      have HB' := setBelow4 hBB (Nat.le_refl w.heap.size) (.int .u64 0) (.int .u64 0) (.int .u64 0) (.int .u64 0)
      obtain ⟨_, _, m0, m1, m2, m3⟩ := hH
      obtain ⟨c0, c1, c2, c3, f0, f1, f2, f3⟩ := hRR
      go_wp2_with fail
      rw [← hW] at HB' ⊢
      exact bodyPost_ret (v := .tuple #[.agg #[.int .u64 0, .int .u64 0, .int .u64 0, .int .u64 0], .int .i64 31]) (by simp [results, Tryz.results8, go_sem, s0, s1, s2, s3]) rfl ⟨rfl, HB'⟩
  · subst hv
    cases b1 <;> cases b2 <;> first | cases hb | skip
    all_goals
      obtain ⟨p0, p1⟩ := hX3
      obtain ⟨r0, r1⟩ := hY3
      obtain ⟨c0, c1, c2, c3, f0, f1, f2, f3⟩ := hR3
      go_wp2_with fail
      have hS : RS w b1_ w3.heap.size x0 x1 y0 y1 (w3.alloc (.cells #[.int .u64 y0, .int .u64 y1] 24)) := ⟨hB3, ⟨c0, c1, c2, c3, f0, f1, f2, f3⟩, p0, p1, r0, r1⟩
      generalize w3.heap.size = b3 at hlt3 hS ⊢
      generalize w3.alloc (.cells #[.int .u64 y0, .int .u64 y1] 24) = w4 at hS ⊢
      clear hB3 c0 c1 c2 c3 f0 f1 f2 f3 p0 p1 r0 r1
      try simp only [List.append_eq, List.cons_append, List.nil_append]
      refine wp_region_held_drew (S := RS w b1_ b3 x0 x1 y0 y1) (by kernel_rfl) (RS_below hS (Below.drew (Below.refl _ _))) (fun hH => ?_)
      refine wpAnyH_take (i := 0) (oi := { dst := some 68, op := Op.load 24 (Operand.tmp 8), type := 24, pos := "ref.go:262", after := #[], guard := none }) (v := ?_) rfl (by kernel_rfl) (by kernel_rfl) (by kernel_rfl) (fun _ _ _ h => h) (Or.inl ⟨by rfl, ?_⟩) hH ?_
      rotate_left
      · intro w hSw
        obtain ⟨y0, y1, y2, y3, y4, y5⟩ := hSw
        first | (go_simp; done) | (go_simp; with_reducible rfl)
      try simp only [Act.put, List.setIfInBounds_toArray, List.set_cons_zero, List.set_cons_succ]
      refine wpAnyH_take (i := 2) (oi := { dst := some 70, op := Op.load 24 (Operand.tmp 10), type := 24, pos := "ref.go:262", after := #[], guard := none }) (v := ?_) rfl (by kernel_rfl) (by kernel_rfl) (by kernel_rfl) (fun _ _ _ h => h) (Or.inl ⟨by rfl, ?_⟩) hH ?_
      rotate_left
      · intro w hSw
        obtain ⟨y0, y1, y2, y3, y4, y5⟩ := hSw
        first | (go_simp; done) | (go_simp; with_reducible rfl)
      try simp only [Act.put, List.setIfInBounds_toArray, List.set_cons_zero, List.set_cons_succ]
      refine wpAnyH_ready (rs := [1]) (by kernel_rfl) (by simp) ?_
      refine AllReadyH.cons (o := { dst := some 69, op := Op.call { callee := Callee.value (Operand.func 15), args := #[Operand.tmp 68], argTypes := #[24] }, type := 4, pos := "ref.go:262", after := #[{ on := 0, ground := Ground.data }], guard := none }) rfl (fun K hK => ?_) AllReadyH.nil
      go_simp
      refine (H13.out _).mono ?_
      rintro e wn ⟨rfl, hb⟩
      go_wp2_with fail
      refine hK.out _ _ (RS_below hH hb) (fun hH2 => ?_)
      clear hK K hH hb
      have hH := hH2
      clear hH2
      try simp only [Act.put, List.setIfInBounds_toArray, List.set_cons_zero, List.set_cons_succ]
      refine wpAnyH_ready (rs := [3]) (by kernel_rfl) (by simp) ?_
      refine AllReadyH.cons (o := { dst := some 71, op := Op.call { callee := Callee.value (Operand.func 15), args := #[Operand.tmp 70], argTypes := #[24] }, type := 4, pos := "ref.go:262", after := #[{ on := 2, ground := Ground.data }, { on := 1, ground := Ground.chain }], guard := none }) rfl (fun K hK => ?_) AllReadyH.nil
      go_simp
      refine (H13b.out _).mono ?_
      rintro e wn ⟨rfl, hb⟩
      go_wp2_with fail
      refine hK.out _ _ (RS_below hH hb) (fun hH2 => ?_)
      clear hK K hH hb
      have hH := hH2
      clear hH2
      try simp only [Act.put, List.setIfInBounds_toArray, List.set_cons_zero, List.set_cons_succ]
      refine wpAnyH_take (i := 4) (oi := { dst := some 72, op := Op.binOp BinOp.neq 4 (Operand.tmp 69) (Operand.tmp 71) 4, type := 4, pos := "ref.go:262", after := #[{ on := 1, ground := Ground.data }, { on := 3, ground := Ground.data }], guard := none }) (v := ?_) rfl (by kernel_rfl) (by kernel_rfl) (by kernel_rfl) (fun _ _ _ h => h) (Or.inl ⟨by rfl, ?_⟩) hH ?_
      rotate_left
      · intro w hSw
        obtain ⟨y0, y1, y2, y3, y4, y5⟩ := hSw
        first | (go_simp; done) | (go_simp; with_reducible rfl)
      try simp only [Act.put, List.setIfInBounds_toArray, List.set_cons_zero, List.set_cons_succ]
      refine wpAnyH_take (i := 5) (oi := { dst := some 73, op := Op.move (Operand.tmp 72), type := 4, pos := "ref.go:262", after := #[{ on := 4, ground := Ground.data }, { on := 3, ground := Ground.chain }], guard := none }) (v := ?_) rfl (by kernel_rfl) (by kernel_rfl) (by kernel_rfl) (fun _ _ _ h => h) (Or.inl ⟨by rfl, ?_⟩) hH ?_
      rotate_left
      · intro w hSw
        obtain ⟨y0, y1, y2, y3, y4, y5⟩ := hSw
        first | (go_simp; done) | (go_simp; with_reducible rfl)
      try simp only [Act.put, List.setIfInBounds_toArray, List.set_cons_zero, List.set_cons_succ]
      refine wpAnyH_take (i := 6) (oi := { dst := some 74, op := Op.load 24 (Operand.tmp 10), type := 24, pos := "ref.go:262", after := #[{ on := 5, ground := Ground.guard }], guard := some (5, false) }) (v := ?_) rfl (by kernel_rfl) (by kernel_rfl) (by kernel_rfl) (fun _ _ _ h => h) (Or.inl ⟨by rfl, ?_⟩) hH ?_
      rotate_left
      · intro w hSw
        obtain ⟨y0, y1, y2, y3, y4, y5⟩ := hSw
        first | (go_simp; done) | (go_simp; with_reducible rfl)
      try simp only [Act.put, List.setIfInBounds_toArray, List.set_cons_zero, List.set_cons_succ]
      refine wpAnyH_take (i := 7) (oi := { dst := some 75, op := Op.load 24 (Operand.tmp 8), type := 24, pos := "ref.go:262", after := #[{ on := 5, ground := Ground.guard }], guard := some (5, false) }) (v := ?_) rfl (by kernel_rfl) (by kernel_rfl) (by kernel_rfl) (fun _ _ _ h => h) (Or.inl ⟨by rfl, ?_⟩) hH ?_
      rotate_left
      · intro w hSw
        obtain ⟨y0, y1, y2, y3, y4, y5⟩ := hSw
        first | (go_simp; done) | (go_simp; with_reducible rfl)
      try simp only [Act.put, List.setIfInBounds_toArray, List.set_cons_zero, List.set_cons_succ]
      refine wpAnyH_ready (rs := [8]) (by kernel_rfl) (by simp) ?_
      refine AllReadyH.cons (o := { dst := some 76, op := Op.call { callee := Callee.value (Operand.func 24), args := #[Operand.tmp 74, Operand.tmp 75], argTypes := #[24, 24] }, type := 4, pos := "ref.go:262", after := #[{ on := 6, ground := Ground.data }, { on := 7, ground := Ground.data }, { on := 5, ground := Ground.chain }, { on := 5, ground := Ground.guard }], guard := some (5, false) }) rfl (fun K hK => ?_) AllReadyH.nil
      go_simp
      refine (H20.out _).mono ?_
      rintro e wn ⟨rfl, hb⟩
      go_wp2_with fail
      refine hK.out _ _ (RS_below hH hb) (fun hH2 => ?_)
      clear hK K hH hb
      have hH := hH2
      clear hH2
      try simp only [Act.put, List.setIfInBounds_toArray, List.set_cons_zero, List.set_cons_succ]
      refine wpAnyH_take (i := 9) (oi := { dst := some 77, op := Op.pick (Operand.tmp 73) (Operand.const (Value.bool true)) (Operand.tmp 76), type := 4, pos := "ref.go:262", after := #[{ on := 5, ground := Ground.data }, { on := 8, ground := Ground.data }], guard := none }) (v := ?_) rfl (by kernel_rfl) (by kernel_rfl) (by kernel_rfl) (fun _ _ _ h => h) (Or.inl ⟨by rfl, ?_⟩) hH ?_
      rotate_left
      · intro w hSw
        obtain ⟨y0, y1, y2, y3, y4, y5⟩ := hSw
        first | (go_simp; done) | (go_simp; with_reducible rfl)
      try simp only [Act.put, List.setIfInBounds_toArray, List.set_cons_zero, List.set_cons_succ]
      refine wpAnyH_done (by kernel_rfl) ?_ _
      have hBB := hH.1
      have hRR := hH.2.1
      obtain ⟨W, hW, s0, s1, s2, s3⟩ := resR_set hRR x0 x1 y0 y1
      have HB' := setBelow4 hBB (Nat.le_refl w.heap.size) (.int .u64 x0) (.int .u64 x1) (.int .u64 y0) (.int .u64 y1)
      obtain ⟨_, _, m0, m1, m2, m3⟩ := hH
      obtain ⟨c0, c1, c2, c3, f0, f1, f2, f3⟩ := hRR
      go_wp2_with fail
      rw [← hW] at HB' ⊢
      exact bodyPost_ret (v := .tuple #[.agg #[.int .u64 x0, .int .u64 x1, .int .u64 y0, .int .u64 y1], .int .i64 0]) (by simp [results, Tryz.results8, go_sem, s0, s1, s2, s3]) rfl ⟨rfl, HB'⟩
end Go.Proofs.YtgbkeciimddpnaaGreatDoor.Ranges
