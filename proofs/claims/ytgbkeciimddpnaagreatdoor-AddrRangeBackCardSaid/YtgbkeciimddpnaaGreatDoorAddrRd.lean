/-
Ranges in text: the program's ParseRange at a text with a dash.
Conditions: the library's variables hold what they hold.
-/
import Derived.Test.YtgbkeciimddpnaaGreatDoorAddrRg
import Derived.Deep.RegionHeld3
namespace Go.Proofs.YtgbkeciimddpnaaGreatDoor.Ranges
open Go Go.RowKit Go.Proofs.YtgbkeciimddpnaaGreatDoorW.PrintWords Go.Proofs.YtgbkeciimddpnaaGreatDoor.Print Go.Proofs.YtgbkeciimddpnaaGreatDoor.AddrP
/-- What stays as it is in the drawn region. -/
def RS (w : World) (b1 b3 : Nat) (x0 x1 y0 y1 : Int) (w' : World) : Prop := Below w.heap.size w w' ∧ ResR w.heap.size w' ∧ w'.cell? ⟨b1, 0, none⟩ = some (.int .u64 x0) ∧ w'.cell? ⟨b1, 1, none⟩ = some (.int .u64 x1) ∧ w'.cell? ⟨b3, 0, none⟩ = some (.int .u64 y0) ∧ w'.cell? ⟨b3, 1, none⟩ = some (.int .u64 y1)
theorem RS_below {w : World} {b1 b3 : Nat} {x0 x1 y0 y1 : Int} {w' w2 : World} (h : RS w b1 b3 x0 x1 y0 y1 w') (hb : Below w'.heap.size w' w2) : RS w b1 b3 x0 x1 y0 y1 w2 := by
  obtain ⟨h1, h2, h3, h4, h5, h6⟩ := h
  exact ⟨bnext h1 hb, h2.below hb, pw_cell_below hb h3, pw_cell_below hb h4, pw_cell_below hb h5, pw_cell_below hb h6⟩
set_option maxRecDepth 100000 in
set_option maxHeartbeats 6400000 in
theorem pr_dash (s : ByteArray) (i : Nat) (x0 x1 e y0 y1 f v q0 q1 q2 q3 qe : Int) (b1 b2 : Bool) (w : World) (hi : i < s.size) (hs : s.size ≤ 4096) (hl : LibVars w) (hp : PrVars w)
    (hq : Hid (((e != 0) = true ∧ q0 = 0 ∧ q1 = 0 ∧ q2 = 0 ∧ q3 = 0 ∧ qe = 30) ∨ (e = 0 ∧ (f != 0) = true ∧ q0 = 0 ∧ q1 = 0 ∧ q2 = 0 ∧ q3 = 0 ∧ qe = 30) ∨ (e = 0 ∧ f = 0 ∧ b1 = !b2 ∧ q0 = 0 ∧ q1 = 0 ∧ q2 = 0 ∧ q3 = 0 ∧ qe = 31) ∨
      (e = 0 ∧ f = 0 ∧ b1 = b2 ∧ 0 < v ∧ q0 = 0 ∧ q1 = 0 ∧ q2 = 0 ∧ q3 = 0 ∧ qe = 31) ∨ (e = 0 ∧ f = 0 ∧ b1 = b2 ∧ ¬ 0 < v ∧ x0 = q0 ∧ x1 = q1 ∧ y0 = q2 ∧ y1 = q3 ∧ qe = 0)))
    (h17 : ∀ w, Calls Tryz.prog 17 #[.string s, .int .u8 47] w fun e w' => e = .returned (.int .i64 (-1)) ∧ w' = w) 
    (h17b : ∀ w, Calls Tryz.prog 17 #[.string s, .int .u8 45] w fun e w' => e = .returned (.int .i64 i) ∧ w' = w)
    (h18 : ∀ w, LibVars w → PrVars w → Calls Tryz.prog 18 #[.string (s.extract 0 i)] w fun e' w' => e' = .returned (.tuple #[.agg #[.int .u64 x0, .int .u64 x1], .int .i64 e]) ∧ Below w.heap.size w w')
    (h18b : ∀ w, LibVars w → PrVars w → Calls Tryz.prog 18 #[.string (s.extract (i + 1) s.size)] w fun e' w' => e' = .returned (.tuple #[.agg #[.int .u64 y0, .int .u64 y1], .int .i64 f]) ∧ Below w.heap.size w w')
    (h13 : ∀ w, Calls Tryz.prog 13 #[.agg #[.int .u64 x0, .int .u64 x1]] w fun e' w' => e' = .returned (.bool b1) ∧ Below w.heap.size w w')
    (h13b : ∀ w, Calls Tryz.prog 13 #[.agg #[.int .u64 y0, .int .u64 y1]] w fun e' w' => e' = .returned (.bool b2) ∧ Below w.heap.size w w')
    (h20 : ∀ w, Calls Tryz.prog 20 #[.agg #[.int .u64 x0, .int .u64 x1], .agg #[.int .u64 y0, .int .u64 y1]] w fun e' w' => e' = .returned (.int .i64 v) ∧ Below w.heap.size w w') :
    Calls Tryz.prog 7 #[.string s] w fun e' w' => e' = .returned (.tuple #[.agg #[.int .u64 q0, .int .u64 q1, .int .u64 q2, .int .u64 q3], .int .i64 qe]) ∧ Below w.heap.size w w' := by
  have H17 := Lib.hid h17
  have H17b := Lib.hid h17b
  have H18 := Lib.hid h18
  have H18b := Lib.hid h18b
  have H13 := Lib.hid h13
  have H13b := Lib.hid h13b
  have H20 := Lib.hid h20
  clear h17 h17b h18 h18b h13 h13b h20
  go_enter Tryz.func7, Tryz.ntmps7
  go_wp2_with fail
  refine (H17.out _).mono ?_
  rintro e' w' ⟨rfl, rfl⟩
  go_wp2_with fail
  refine (H17b.out _).mono ?_
  rintro e' w' ⟨rfl, rfl⟩
  go_wp2_with fail
  have hB0 := ba1 w (.cells #[.int .u64 0, .int .u64 0, .int .u64 0, .int .u64 0] 26)
  have hR0 := resR_new w 26
  refine (H18.out _ (hl.below hB0) (hp.below hB0)).mono ?_
  rintro e' w1 ⟨rfl, hb1⟩
  have hB1 := ba (bnext hB0 hb1) (.cells #[.int .u64 x0, .int .u64 x1] 24)
  have hR1 := (hR0.below hb1).below (ba1 w1 (.cells #[.int .u64 x0, .int .u64 x1] 24))
  have hX1 := box2_new w1 x0 x1 24
  have hlt1 : w.heap.size + 1 ≤ w1.heap.size := by have := hb1.size; simpa using this
  have hl1 := hl.below hB1
  have hp1 := hp.below hB1
  clear hl hp hB0 hR0 hb1
  go_wp2_with fail
  generalize hb1_ : w1.heap.size = b1_ at hX1 hlt1 ⊢
  generalize w1.alloc (.cells #[.int .u64 x0, .int .u64 x1] 24) = w2 at hB1 hR1 hX1 hl1 hp1 ⊢
  clear hb1_
  refine (H18b.out _ hl1 hp1).mono ?_
  rintro e' w3 ⟨rfl, hb3⟩
  have hB3 := ba (bnext hB1 hb3) (.cells #[.int .u64 y0, .int .u64 y1] 24)
  have hR3 := (hR1.below hb3).below (ba1 w3 (.cells #[.int .u64 y0, .int .u64 y1] 24))
  have hX3 := (hX1.below hb3).below (ba1 w3 (.cells #[.int .u64 y0, .int .u64 y1] 24))
  have hY3 := box2_new w3 y0 y1 24
  have hlt3 : b1_ + 1 ≤ w3.heap.size := Nat.le_trans (lt_of_cell hX1.c0) hb3.size
  clear hl1 hp1 hB1 hR1 hb3 hX1
  rcases hq.out with ⟨he, rfl, rfl, rfl, rfl, rfl⟩ | ⟨rfl, he, rfl, rfl, rfl, rfl, rfl⟩ | ⟨rfl, rfl, hb, rfl, rfl, rfl, rfl, rfl⟩ | ⟨rfl, rfl, hb, hv, rfl, rfl, rfl, rfl, rfl⟩ | ⟨rfl, rfl, hb, hv, rfl, rfl, rfl, rfl, rfl⟩
  · obtain ⟨W, hW, s0, s1, s2, s3⟩ := resR_set hR3 0 0 0 0
    have HB' := setBelow4 hB3 (Nat.le_refl w.heap.size) (.int .u64 0) (.int .u64 0) (.int .u64 0) (.int .u64 0)
    obtain ⟨c0, c1, c2, c3, f0, f1, f2, f3⟩ := hR3
    obtain ⟨p0, p1⟩ := hX3
    obtain ⟨r0, r1⟩ := hY3
    go_wp2_with fail
    rw [← hW] at HB' ⊢
    exact bodyPost_ret (v := .tuple #[.agg #[.int .u64 0, .int .u64 0, .int .u64 0, .int .u64 0], .int .i64 30]) (by simp [results, Tryz.results7, go_sem, s0, s1, s2, s3]) rfl ⟨rfl, HB'⟩
  · obtain ⟨W, hW, s0, s1, s2, s3⟩ := resR_set hR3 0 0 0 0
    have HB' := setBelow4 hB3 (Nat.le_refl w.heap.size) (.int .u64 0) (.int .u64 0) (.int .u64 0) (.int .u64 0)
    obtain ⟨c0, c1, c2, c3, f0, f1, f2, f3⟩ := hR3
    obtain ⟨p0, p1⟩ := hX3
    obtain ⟨r0, r1⟩ := hY3
    go_wp2_with fail
    rw [← hW] at HB' ⊢
    exact bodyPost_ret (v := .tuple #[.agg #[.int .u64 0, .int .u64 0, .int .u64 0, .int .u64 0], .int .i64 30]) (by simp [results, Tryz.results7, go_sem, s0, s1, s2, s3]) rfl ⟨rfl, HB'⟩
  · cases b1 <;> cases b2 <;> first | cases hb | skip
    all_goals
      obtain ⟨p0, p1⟩ := hX3
      obtain ⟨r0, r1⟩ := hY3
      obtain ⟨c0, c1, c2, c3, f0, f1, f2, f3⟩ := hR3
      go_wp2_with fail
      have hS : RS w b1_ w3.heap.size x0 x1 y0 y1 (w3.alloc (.cells #[.int .u64 y0, .int .u64 y1] 24)) := ⟨hB3, ⟨c0, c1, c2, c3, f0, f1, f2, f3⟩, p0, p1, r0, r1⟩
      generalize w3.heap.size = b3 at hlt3 hS ⊢
      generalize w3.alloc (.cells #[.int .u64 y0, .int .u64 y1] 24) = w4 at hS ⊢
      clear hB3 c0 c1 c2 c3 f0 f1 f2 f3 p0 p1 r0 r1
      try simp only [List.append_eq, List.cons_append, List.nil_append]
      refine wp_region_held_drew (S := RS w b1_ b3 x0 x1 y0 y1) (by kernel_rfl) (RS_below hS (Below.drew (Below.refl _ _))) (fun hH => ?_)
      refine wpAnyH_take (i := 0) (oi := { dst := some 77, op := Op.load 24 (Operand.tmp 10), type := 24, pos := "addr.go:196", after := #[], guard := none }) (v := ?_) rfl (by kernel_rfl) (by kernel_rfl) (by kernel_rfl) (fun _ _ _ h => h) (Or.inl ⟨by rfl, ?_⟩) hH ?_
      rotate_left
      · intro w hSw
        obtain ⟨y0, y1, y2, y3, y4, y5⟩ := hSw
        first | (go_simp; done) | (go_simp; with_reducible rfl)
      try simp only [Act.put, List.setIfInBounds_toArray, List.set_cons_zero, List.set_cons_succ]
      refine wpAnyH_take (i := 2) (oi := { dst := some 79, op := Op.load 24 (Operand.tmp 12), type := 24, pos := "addr.go:196", after := #[], guard := none }) (v := ?_) rfl (by kernel_rfl) (by kernel_rfl) (by kernel_rfl) (fun _ _ _ h => h) (Or.inl ⟨by rfl, ?_⟩) hH ?_
      rotate_left
      · intro w hSw
        obtain ⟨y0, y1, y2, y3, y4, y5⟩ := hSw
        first | (go_simp; done) | (go_simp; with_reducible rfl)
      try simp only [Act.put, List.setIfInBounds_toArray, List.set_cons_zero, List.set_cons_succ]
      refine wpAnyH_ready (rs := [1]) (by kernel_rfl) (by simp) ?_
      refine AllReadyH.cons (o := { dst := some 78, op := Op.call { callee := Callee.value (Operand.func 13), args := #[Operand.tmp 77], argTypes := #[24] }, type := 4, pos := "addr.go:196", after := #[{ on := 0, ground := Ground.data }], guard := none }) rfl (fun K hK => ?_) AllReadyH.nil
      go_simp
      refine (H13.out _).mono ?_
      rintro e wn ⟨rfl, hb⟩
      go_wp2_with fail
      refine hK.out _ _ (RS_below hH hb) (fun hH2 => ?_)
      clear hK K hH hb
      have hH := hH2
      clear hH2
      try simp only [Act.put, List.setIfInBounds_toArray, List.set_cons_zero, List.set_cons_succ]
      refine wpAnyH_ready (rs := [3]) (by kernel_rfl) (by simp) ?_
      refine AllReadyH.cons (o := { dst := some 80, op := Op.call { callee := Callee.value (Operand.func 13), args := #[Operand.tmp 79], argTypes := #[24] }, type := 4, pos := "addr.go:196", after := #[{ on := 2, ground := Ground.data }, { on := 1, ground := Ground.chain }], guard := none }) rfl (fun K hK => ?_) AllReadyH.nil
      go_simp
      refine (H13b.out _).mono ?_
      rintro e wn ⟨rfl, hb⟩
      go_wp2_with fail
      refine hK.out _ _ (RS_below hH hb) (fun hH2 => ?_)
      clear hK K hH hb
      have hH := hH2
      clear hH2
      try simp only [Act.put, List.setIfInBounds_toArray, List.set_cons_zero, List.set_cons_succ]
      refine wpAnyH_take (i := 4) (oi := { dst := some 81, op := Op.binOp BinOp.neq 4 (Operand.tmp 78) (Operand.tmp 80) 4, type := 4, pos := "addr.go:196", after := #[{ on := 1, ground := Ground.data }, { on := 3, ground := Ground.data }], guard := none }) (v := ?_) rfl (by kernel_rfl) (by kernel_rfl) (by kernel_rfl) (fun _ _ _ h => h) (Or.inl ⟨by rfl, ?_⟩) hH ?_
      rotate_left
      · intro w hSw
        obtain ⟨y0, y1, y2, y3, y4, y5⟩ := hSw
        first | (go_simp; done) | (go_simp; with_reducible rfl)
      try simp only [Act.put, List.setIfInBounds_toArray, List.set_cons_zero, List.set_cons_succ]
      refine wpAnyH_take (i := 5) (oi := { dst := some 82, op := Op.move (Operand.tmp 81), type := 4, pos := "addr.go:196", after := #[{ on := 4, ground := Ground.data }, { on := 3, ground := Ground.chain }], guard := none }) (v := ?_) rfl (by kernel_rfl) (by kernel_rfl) (by kernel_rfl) (fun _ _ _ h => h) (Or.inl ⟨by rfl, ?_⟩) hH ?_
      rotate_left
      · intro w hSw
        obtain ⟨y0, y1, y2, y3, y4, y5⟩ := hSw
        first | (go_simp; done) | (go_simp; with_reducible rfl)
      try simp only [Act.put, List.setIfInBounds_toArray, List.set_cons_zero, List.set_cons_succ]
      refine wpAnyH_take (i := 6) (oi := { dst := some 83, op := Op.load 24 (Operand.tmp 10), type := 24, pos := "addr.go:196", after := #[{ on := 5, ground := Ground.guard }], guard := some (5, false) }) (v := undef) rfl (by kernel_rfl) (by kernel_rfl) (by kernel_rfl) (fun _ _ _ h => h) (Or.inr ⟨by rfl, rfl⟩) hH ?_
      try simp only [Act.put, List.setIfInBounds_toArray, List.set_cons_zero, List.set_cons_succ]
      refine wpAnyH_take (i := 7) (oi := { dst := some 84, op := Op.load 24 (Operand.tmp 12), type := 24, pos := "addr.go:196", after := #[{ on := 5, ground := Ground.guard }], guard := some (5, false) }) (v := undef) rfl (by kernel_rfl) (by kernel_rfl) (by kernel_rfl) (fun _ _ _ h => h) (Or.inr ⟨by rfl, rfl⟩) hH ?_
      try simp only [Act.put, List.setIfInBounds_toArray, List.set_cons_zero, List.set_cons_succ]
      refine wpAnyH_take (i := 8) (oi := { dst := some 85, op := Op.call { callee := Callee.value (Operand.func 20), args := #[Operand.tmp 83, Operand.tmp 84], argTypes := #[24, 24] }, type := 3, pos := "addr.go:196", after := #[{ on := 6, ground := Ground.data }, { on := 7, ground := Ground.data }, { on := 5, ground := Ground.chain }, { on := 5, ground := Ground.guard }], guard := some (5, false) }) (v := undef) rfl (by kernel_rfl) (by kernel_rfl) (by kernel_rfl) (fun _ _ _ h => h) (Or.inr ⟨by rfl, rfl⟩) hH ?_
      try simp only [Act.put, List.setIfInBounds_toArray, List.set_cons_zero, List.set_cons_succ]
      refine wpAnyH_take (i := 9) (oi := { dst := some 86, op := Op.binOp BinOp.gtr 3 (Operand.tmp 85) (Operand.const (Value.int IntKind.i64 0)) 3, type := 4, pos := "addr.go:196", after := #[{ on := 8, ground := Ground.data }, { on := 5, ground := Ground.guard }], guard := some (5, false) }) (v := undef) rfl (by kernel_rfl) (by kernel_rfl) (by kernel_rfl) (fun _ _ _ h => h) (Or.inr ⟨by rfl, rfl⟩) hH ?_
      try simp only [Act.put, List.setIfInBounds_toArray, List.set_cons_zero, List.set_cons_succ]
      refine wpAnyH_take (i := 10) (oi := { dst := some 87, op := Op.pick (Operand.tmp 82) (Operand.const (Value.bool true)) (Operand.tmp 86), type := 4, pos := "addr.go:196", after := #[{ on := 5, ground := Ground.data }, { on := 9, ground := Ground.data }], guard := none }) (v := ?_) rfl (by kernel_rfl) (by kernel_rfl) (by kernel_rfl) (fun _ _ _ h => h) (Or.inl ⟨by rfl, ?_⟩) hH ?_
      rotate_left
      · intro w hSw
        obtain ⟨y0, y1, y2, y3, y4, y5⟩ := hSw
        first | (go_simp; done) | (go_simp; with_reducible rfl)
      try simp only [Act.put, List.setIfInBounds_toArray, List.set_cons_zero, List.set_cons_succ]
      refine wpAnyH_take (i := 11) (oi := { dst := some 76, op := Op.assign (Operand.tmp 87), type := 4, pos := "addr.go:196", after := #[{ on := 10, ground := Ground.data }, { on := 8, ground := Ground.chain }], guard := none }) (v := ?_) rfl (by kernel_rfl) (by kernel_rfl) (by kernel_rfl) (fun _ _ _ h => h) (Or.inl ⟨by rfl, ?_⟩) hH ?_
      rotate_left
      · intro w hSw
        obtain ⟨y0, y1, y2, y3, y4, y5⟩ := hSw
        first | (go_simp; done) | (go_simp; with_reducible rfl)
      try simp only [Act.put, List.setIfInBounds_toArray, List.set_cons_zero, List.set_cons_succ]
      refine wpAnyH_done (by kernel_rfl) ?_ _
      have hBB := hH.1
      have hRR := hH.2.1
      obtain ⟨W, hW, s0, s1, s2, s3⟩ := resR_set hRR 0 0 0 0
      have HB' := setBelow4 hBB (Nat.le_refl w.heap.size) (.int .u64 0) (.int .u64 0) (.int .u64 0) (.int .u64 0)
      obtain ⟨_, _, m0, m1, m2, m3⟩ := hH
      obtain ⟨c0, c1, c2, c3, f0, f1, f2, f3⟩ := hRR
      go_wp2_with fail
      rw [← hW] at HB' ⊢
      exact bodyPost_ret (v := .tuple #[.agg #[.int .u64 0, .int .u64 0, .int .u64 0, .int .u64 0], .int .i64 31]) (by simp [results, Tryz.results7, go_sem, s0, s1, s2, s3]) rfl ⟨rfl, HB'⟩
  · cases b1 <;> cases b2 <;> first | cases hb | skip
    all_goals
      obtain ⟨p0, p1⟩ := hX3
      obtain ⟨r0, r1⟩ := hY3
      obtain ⟨c0, c1, c2, c3, f0, f1, f2, f3⟩ := hR3
      go_wp2_with fail
      have hS : RS w b1_ w3.heap.size x0 x1 y0 y1 (w3.alloc (.cells #[.int .u64 y0, .int .u64 y1] 24)) := ⟨hB3, ⟨c0, c1, c2, c3, f0, f1, f2, f3⟩, p0, p1, r0, r1⟩
      generalize w3.heap.size = b3 at hlt3 hS ⊢
      generalize w3.alloc (.cells #[.int .u64 y0, .int .u64 y1] 24) = w4 at hS ⊢
      clear hB3 c0 c1 c2 c3 f0 f1 f2 f3 p0 p1 r0 r1
      try simp only [List.append_eq, List.cons_append, List.nil_append]
      refine wp_region_held_drew (S := RS w b1_ b3 x0 x1 y0 y1) (by kernel_rfl) (RS_below hS (Below.drew (Below.refl _ _))) (fun hH => ?_)
      refine wpAnyH_take (i := 0) (oi := { dst := some 77, op := Op.load 24 (Operand.tmp 10), type := 24, pos := "addr.go:196", after := #[], guard := none }) (v := ?_) rfl (by kernel_rfl) (by kernel_rfl) (by kernel_rfl) (fun _ _ _ h => h) (Or.inl ⟨by rfl, ?_⟩) hH ?_
      rotate_left
      · intro w hSw
        obtain ⟨y0, y1, y2, y3, y4, y5⟩ := hSw
        first | (go_simp; done) | (go_simp; with_reducible rfl)
      try simp only [Act.put, List.setIfInBounds_toArray, List.set_cons_zero, List.set_cons_succ]
      refine wpAnyH_take (i := 2) (oi := { dst := some 79, op := Op.load 24 (Operand.tmp 12), type := 24, pos := "addr.go:196", after := #[], guard := none }) (v := ?_) rfl (by kernel_rfl) (by kernel_rfl) (by kernel_rfl) (fun _ _ _ h => h) (Or.inl ⟨by rfl, ?_⟩) hH ?_
      rotate_left
      · intro w hSw
        obtain ⟨y0, y1, y2, y3, y4, y5⟩ := hSw
        first | (go_simp; done) | (go_simp; with_reducible rfl)
      try simp only [Act.put, List.setIfInBounds_toArray, List.set_cons_zero, List.set_cons_succ]
      refine wpAnyH_ready (rs := [1]) (by kernel_rfl) (by simp) ?_
      refine AllReadyH.cons (o := { dst := some 78, op := Op.call { callee := Callee.value (Operand.func 13), args := #[Operand.tmp 77], argTypes := #[24] }, type := 4, pos := "addr.go:196", after := #[{ on := 0, ground := Ground.data }], guard := none }) rfl (fun K hK => ?_) AllReadyH.nil
      go_simp
      refine (H13.out _).mono ?_
      rintro e wn ⟨rfl, hb⟩
      go_wp2_with fail
      refine hK.out _ _ (RS_below hH hb) (fun hH2 => ?_)
      clear hK K hH hb
      have hH := hH2
      clear hH2
      try simp only [Act.put, List.setIfInBounds_toArray, List.set_cons_zero, List.set_cons_succ]
      refine wpAnyH_ready (rs := [3]) (by kernel_rfl) (by simp) ?_
      refine AllReadyH.cons (o := { dst := some 80, op := Op.call { callee := Callee.value (Operand.func 13), args := #[Operand.tmp 79], argTypes := #[24] }, type := 4, pos := "addr.go:196", after := #[{ on := 2, ground := Ground.data }, { on := 1, ground := Ground.chain }], guard := none }) rfl (fun K hK => ?_) AllReadyH.nil
      go_simp
      refine (H13b.out _).mono ?_
      rintro e wn ⟨rfl, hb⟩
      go_wp2_with fail
      refine hK.out _ _ (RS_below hH hb) (fun hH2 => ?_)
      clear hK K hH hb
      have hH := hH2
      clear hH2
      try simp only [Act.put, List.setIfInBounds_toArray, List.set_cons_zero, List.set_cons_succ]
      refine wpAnyH_take (i := 4) (oi := { dst := some 81, op := Op.binOp BinOp.neq 4 (Operand.tmp 78) (Operand.tmp 80) 4, type := 4, pos := "addr.go:196", after := #[{ on := 1, ground := Ground.data }, { on := 3, ground := Ground.data }], guard := none }) (v := ?_) rfl (by kernel_rfl) (by kernel_rfl) (by kernel_rfl) (fun _ _ _ h => h) (Or.inl ⟨by rfl, ?_⟩) hH ?_
      rotate_left
      · intro w hSw
        obtain ⟨y0, y1, y2, y3, y4, y5⟩ := hSw
        first | (go_simp; done) | (go_simp; with_reducible rfl)
      try simp only [Act.put, List.setIfInBounds_toArray, List.set_cons_zero, List.set_cons_succ]
      refine wpAnyH_take (i := 5) (oi := { dst := some 82, op := Op.move (Operand.tmp 81), type := 4, pos := "addr.go:196", after := #[{ on := 4, ground := Ground.data }, { on := 3, ground := Ground.chain }], guard := none }) (v := ?_) rfl (by kernel_rfl) (by kernel_rfl) (by kernel_rfl) (fun _ _ _ h => h) (Or.inl ⟨by rfl, ?_⟩) hH ?_
      rotate_left
      · intro w hSw
        obtain ⟨y0, y1, y2, y3, y4, y5⟩ := hSw
        first | (go_simp; done) | (go_simp; with_reducible rfl)
      try simp only [Act.put, List.setIfInBounds_toArray, List.set_cons_zero, List.set_cons_succ]
      refine wpAnyH_take (i := 6) (oi := { dst := some 83, op := Op.load 24 (Operand.tmp 10), type := 24, pos := "addr.go:196", after := #[{ on := 5, ground := Ground.guard }], guard := some (5, false) }) (v := ?_) rfl (by kernel_rfl) (by kernel_rfl) (by kernel_rfl) (fun _ _ _ h => h) (Or.inl ⟨by rfl, ?_⟩) hH ?_
      rotate_left
      · intro w hSw
        obtain ⟨y0, y1, y2, y3, y4, y5⟩ := hSw
        first | (go_simp; done) | (go_simp; with_reducible rfl)
      try simp only [Act.put, List.setIfInBounds_toArray, List.set_cons_zero, List.set_cons_succ]
      refine wpAnyH_take (i := 7) (oi := { dst := some 84, op := Op.load 24 (Operand.tmp 12), type := 24, pos := "addr.go:196", after := #[{ on := 5, ground := Ground.guard }], guard := some (5, false) }) (v := ?_) rfl (by kernel_rfl) (by kernel_rfl) (by kernel_rfl) (fun _ _ _ h => h) (Or.inl ⟨by rfl, ?_⟩) hH ?_
      rotate_left
      · intro w hSw
        obtain ⟨y0, y1, y2, y3, y4, y5⟩ := hSw
        first | (go_simp; done) | (go_simp; with_reducible rfl)
      try simp only [Act.put, List.setIfInBounds_toArray, List.set_cons_zero, List.set_cons_succ]
      refine wpAnyH_ready (rs := [8]) (by kernel_rfl) (by simp) ?_
      refine AllReadyH.cons (o := { dst := some 85, op := Op.call { callee := Callee.value (Operand.func 20), args := #[Operand.tmp 83, Operand.tmp 84], argTypes := #[24, 24] }, type := 3, pos := "addr.go:196", after := #[{ on := 6, ground := Ground.data }, { on := 7, ground := Ground.data }, { on := 5, ground := Ground.chain }, { on := 5, ground := Ground.guard }], guard := some (5, false) }) rfl (fun K hK => ?_) AllReadyH.nil
      go_simp
      refine (H20.out _).mono ?_
      rintro e wn ⟨rfl, hb⟩
      go_wp2_with fail
      refine hK.out _ _ (RS_below hH hb) (fun hH2 => ?_)
      clear hK K hH hb
      have hH := hH2
      clear hH2
      try simp only [Act.put, List.setIfInBounds_toArray, List.set_cons_zero, List.set_cons_succ]
      refine wpAnyH_take (i := 9) (oi := { dst := some 86, op := Op.binOp BinOp.gtr 3 (Operand.tmp 85) (Operand.const (Value.int IntKind.i64 0)) 3, type := 4, pos := "addr.go:196", after := #[{ on := 8, ground := Ground.data }, { on := 5, ground := Ground.guard }], guard := some (5, false) }) (v := ?_) rfl (by kernel_rfl) (by kernel_rfl) (by kernel_rfl) (fun _ _ _ h => h) (Or.inl ⟨by rfl, ?_⟩) hH ?_
      rotate_left
      · intro w hSw
        obtain ⟨y0, y1, y2, y3, y4, y5⟩ := hSw
        first | (go_simp; done) | (go_simp; with_reducible rfl)
      try simp only [Act.put, List.setIfInBounds_toArray, List.set_cons_zero, List.set_cons_succ]
      refine wpAnyH_take (i := 10) (oi := { dst := some 87, op := Op.pick (Operand.tmp 82) (Operand.const (Value.bool true)) (Operand.tmp 86), type := 4, pos := "addr.go:196", after := #[{ on := 5, ground := Ground.data }, { on := 9, ground := Ground.data }], guard := none }) (v := ?_) rfl (by kernel_rfl) (by kernel_rfl) (by kernel_rfl) (fun _ _ _ h => h) (Or.inl ⟨by rfl, ?_⟩) hH ?_
      rotate_left
      · intro w hSw
        obtain ⟨y0, y1, y2, y3, y4, y5⟩ := hSw
        first | (go_simp; done) | (go_simp; with_reducible rfl)
      try simp only [Act.put, List.setIfInBounds_toArray, List.set_cons_zero, List.set_cons_succ]
      refine wpAnyH_take (i := 11) (oi := { dst := some 76, op := Op.assign (Operand.tmp 87), type := 4, pos := "addr.go:196", after := #[{ on := 10, ground := Ground.data }, { on := 8, ground := Ground.chain }], guard := none }) (v := ?_) rfl (by kernel_rfl) (by kernel_rfl) (by kernel_rfl) (fun _ _ _ h => h) (Or.inl ⟨by rfl, ?_⟩) hH ?_
      rotate_left
      · intro w hSw
        obtain ⟨y0, y1, y2, y3, y4, y5⟩ := hSw
        first | (go_simp; done) | (go_simp; with_reducible rfl)
      try simp only [Act.put, List.setIfInBounds_toArray, List.set_cons_zero, List.set_cons_succ]
      refine wpAnyH_done (by kernel_rfl) ?_ _
      have hBB := hH.1
      have hRR := hH.2.1
      obtain ⟨W, hW, s0, s1, s2, s3⟩ := resR_set hRR 0 0 0 0
      have HB' := setBelow4 hBB (Nat.le_refl w.heap.size) (.int .u64 0) (.int .u64 0) (.int .u64 0) (.int .u64 0)
      obtain ⟨_, _, m0, m1, m2, m3⟩ := hH
      obtain ⟨c0, c1, c2, c3, f0, f1, f2, f3⟩ := hRR
      go_wp2_with fail
      rw [← hW] at HB' ⊢
      exact bodyPost_ret (v := .tuple #[.agg #[.int .u64 0, .int .u64 0, .int .u64 0, .int .u64 0], .int .i64 31]) (by simp [results, Tryz.results7, go_sem, s0, s1, s2, s3]) rfl ⟨rfl, HB'⟩
  · cases b1 <;> cases b2 <;> first | cases hb | skip
    all_goals
      obtain ⟨p0, p1⟩ := hX3
      obtain ⟨r0, r1⟩ := hY3
      obtain ⟨c0, c1, c2, c3, f0, f1, f2, f3⟩ := hR3
      go_wp2_with fail
      have hS : RS w b1_ w3.heap.size x0 x1 y0 y1 (w3.alloc (.cells #[.int .u64 y0, .int .u64 y1] 24)) := ⟨hB3, ⟨c0, c1, c2, c3, f0, f1, f2, f3⟩, p0, p1, r0, r1⟩
      generalize w3.heap.size = b3 at hlt3 hS ⊢
      generalize w3.alloc (.cells #[.int .u64 y0, .int .u64 y1] 24) = w4 at hS ⊢
      clear hB3 c0 c1 c2 c3 f0 f1 f2 f3 p0 p1 r0 r1
      try simp only [List.append_eq, List.cons_append, List.nil_append]
      refine wp_region_held_drew (S := RS w b1_ b3 x0 x1 y0 y1) (by kernel_rfl) (RS_below hS (Below.drew (Below.refl _ _))) (fun hH => ?_)
      refine wpAnyH_take (i := 0) (oi := { dst := some 77, op := Op.load 24 (Operand.tmp 10), type := 24, pos := "addr.go:196", after := #[], guard := none }) (v := ?_) rfl (by kernel_rfl) (by kernel_rfl) (by kernel_rfl) (fun _ _ _ h => h) (Or.inl ⟨by rfl, ?_⟩) hH ?_
      rotate_left
      · intro w hSw
        obtain ⟨y0, y1, y2, y3, y4, y5⟩ := hSw
        first | (go_simp; done) | (go_simp; with_reducible rfl)
      try simp only [Act.put, List.setIfInBounds_toArray, List.set_cons_zero, List.set_cons_succ]
      refine wpAnyH_take (i := 2) (oi := { dst := some 79, op := Op.load 24 (Operand.tmp 12), type := 24, pos := "addr.go:196", after := #[], guard := none }) (v := ?_) rfl (by kernel_rfl) (by kernel_rfl) (by kernel_rfl) (fun _ _ _ h => h) (Or.inl ⟨by rfl, ?_⟩) hH ?_
      rotate_left
      · intro w hSw
        obtain ⟨y0, y1, y2, y3, y4, y5⟩ := hSw
        first | (go_simp; done) | (go_simp; with_reducible rfl)
      try simp only [Act.put, List.setIfInBounds_toArray, List.set_cons_zero, List.set_cons_succ]
      refine wpAnyH_ready (rs := [1]) (by kernel_rfl) (by simp) ?_
      refine AllReadyH.cons (o := { dst := some 78, op := Op.call { callee := Callee.value (Operand.func 13), args := #[Operand.tmp 77], argTypes := #[24] }, type := 4, pos := "addr.go:196", after := #[{ on := 0, ground := Ground.data }], guard := none }) rfl (fun K hK => ?_) AllReadyH.nil
      go_simp
      refine (H13.out _).mono ?_
      rintro e wn ⟨rfl, hb⟩
      go_wp2_with fail
      refine hK.out _ _ (RS_below hH hb) (fun hH2 => ?_)
      clear hK K hH hb
      have hH := hH2
      clear hH2
      try simp only [Act.put, List.setIfInBounds_toArray, List.set_cons_zero, List.set_cons_succ]
      refine wpAnyH_ready (rs := [3]) (by kernel_rfl) (by simp) ?_
      refine AllReadyH.cons (o := { dst := some 80, op := Op.call { callee := Callee.value (Operand.func 13), args := #[Operand.tmp 79], argTypes := #[24] }, type := 4, pos := "addr.go:196", after := #[{ on := 2, ground := Ground.data }, { on := 1, ground := Ground.chain }], guard := none }) rfl (fun K hK => ?_) AllReadyH.nil
      go_simp
      refine (H13b.out _).mono ?_
      rintro e wn ⟨rfl, hb⟩
      go_wp2_with fail
      refine hK.out _ _ (RS_below hH hb) (fun hH2 => ?_)
      clear hK K hH hb
      have hH := hH2
      clear hH2
      try simp only [Act.put, List.setIfInBounds_toArray, List.set_cons_zero, List.set_cons_succ]
      refine wpAnyH_take (i := 4) (oi := { dst := some 81, op := Op.binOp BinOp.neq 4 (Operand.tmp 78) (Operand.tmp 80) 4, type := 4, pos := "addr.go:196", after := #[{ on := 1, ground := Ground.data }, { on := 3, ground := Ground.data }], guard := none }) (v := ?_) rfl (by kernel_rfl) (by kernel_rfl) (by kernel_rfl) (fun _ _ _ h => h) (Or.inl ⟨by rfl, ?_⟩) hH ?_
      rotate_left
      · intro w hSw
        obtain ⟨y0, y1, y2, y3, y4, y5⟩ := hSw
        first | (go_simp; done) | (go_simp; with_reducible rfl)
      try simp only [Act.put, List.setIfInBounds_toArray, List.set_cons_zero, List.set_cons_succ]
      refine wpAnyH_take (i := 5) (oi := { dst := some 82, op := Op.move (Operand.tmp 81), type := 4, pos := "addr.go:196", after := #[{ on := 4, ground := Ground.data }, { on := 3, ground := Ground.chain }], guard := none }) (v := ?_) rfl (by kernel_rfl) (by kernel_rfl) (by kernel_rfl) (fun _ _ _ h => h) (Or.inl ⟨by rfl, ?_⟩) hH ?_
      rotate_left
      · intro w hSw
        obtain ⟨y0, y1, y2, y3, y4, y5⟩ := hSw
        first | (go_simp; done) | (go_simp; with_reducible rfl)
      try simp only [Act.put, List.setIfInBounds_toArray, List.set_cons_zero, List.set_cons_succ]
      refine wpAnyH_take (i := 6) (oi := { dst := some 83, op := Op.load 24 (Operand.tmp 10), type := 24, pos := "addr.go:196", after := #[{ on := 5, ground := Ground.guard }], guard := some (5, false) }) (v := ?_) rfl (by kernel_rfl) (by kernel_rfl) (by kernel_rfl) (fun _ _ _ h => h) (Or.inl ⟨by rfl, ?_⟩) hH ?_
      rotate_left
      · intro w hSw
        obtain ⟨y0, y1, y2, y3, y4, y5⟩ := hSw
        first | (go_simp; done) | (go_simp; with_reducible rfl)
      try simp only [Act.put, List.setIfInBounds_toArray, List.set_cons_zero, List.set_cons_succ]
      refine wpAnyH_take (i := 7) (oi := { dst := some 84, op := Op.load 24 (Operand.tmp 12), type := 24, pos := "addr.go:196", after := #[{ on := 5, ground := Ground.guard }], guard := some (5, false) }) (v := ?_) rfl (by kernel_rfl) (by kernel_rfl) (by kernel_rfl) (fun _ _ _ h => h) (Or.inl ⟨by rfl, ?_⟩) hH ?_
      rotate_left
      · intro w hSw
        obtain ⟨y0, y1, y2, y3, y4, y5⟩ := hSw
        first | (go_simp; done) | (go_simp; with_reducible rfl)
      try simp only [Act.put, List.setIfInBounds_toArray, List.set_cons_zero, List.set_cons_succ]
      refine wpAnyH_ready (rs := [8]) (by kernel_rfl) (by simp) ?_
      refine AllReadyH.cons (o := { dst := some 85, op := Op.call { callee := Callee.value (Operand.func 20), args := #[Operand.tmp 83, Operand.tmp 84], argTypes := #[24, 24] }, type := 3, pos := "addr.go:196", after := #[{ on := 6, ground := Ground.data }, { on := 7, ground := Ground.data }, { on := 5, ground := Ground.chain }, { on := 5, ground := Ground.guard }], guard := some (5, false) }) rfl (fun K hK => ?_) AllReadyH.nil
      go_simp
      refine (H20.out _).mono ?_
      rintro e wn ⟨rfl, hb⟩
      go_wp2_with fail
      refine hK.out _ _ (RS_below hH hb) (fun hH2 => ?_)
      clear hK K hH hb
      have hH := hH2
      clear hH2
      try simp only [Act.put, List.setIfInBounds_toArray, List.set_cons_zero, List.set_cons_succ]
      refine wpAnyH_take (i := 9) (oi := { dst := some 86, op := Op.binOp BinOp.gtr 3 (Operand.tmp 85) (Operand.const (Value.int IntKind.i64 0)) 3, type := 4, pos := "addr.go:196", after := #[{ on := 8, ground := Ground.data }, { on := 5, ground := Ground.guard }], guard := some (5, false) }) (v := ?_) rfl (by kernel_rfl) (by kernel_rfl) (by kernel_rfl) (fun _ _ _ h => h) (Or.inl ⟨by rfl, ?_⟩) hH ?_
      rotate_left
      · intro w hSw
        obtain ⟨y0, y1, y2, y3, y4, y5⟩ := hSw
        first | (go_simp; done) | (go_simp; with_reducible rfl)
      try simp only [Act.put, List.setIfInBounds_toArray, List.set_cons_zero, List.set_cons_succ]
      refine wpAnyH_take (i := 10) (oi := { dst := some 87, op := Op.pick (Operand.tmp 82) (Operand.const (Value.bool true)) (Operand.tmp 86), type := 4, pos := "addr.go:196", after := #[{ on := 5, ground := Ground.data }, { on := 9, ground := Ground.data }], guard := none }) (v := ?_) rfl (by kernel_rfl) (by kernel_rfl) (by kernel_rfl) (fun _ _ _ h => h) (Or.inl ⟨by rfl, ?_⟩) hH ?_
      rotate_left
      · intro w hSw
        obtain ⟨y0, y1, y2, y3, y4, y5⟩ := hSw
        first | (go_simp; done) | (go_simp; with_reducible rfl)
      try simp only [Act.put, List.setIfInBounds_toArray, List.set_cons_zero, List.set_cons_succ]
      refine wpAnyH_take (i := 11) (oi := { dst := some 76, op := Op.assign (Operand.tmp 87), type := 4, pos := "addr.go:196", after := #[{ on := 10, ground := Ground.data }, { on := 8, ground := Ground.chain }], guard := none }) (v := ?_) rfl (by kernel_rfl) (by kernel_rfl) (by kernel_rfl) (fun _ _ _ h => h) (Or.inl ⟨by rfl, ?_⟩) hH ?_
      rotate_left
      · intro w hSw
        obtain ⟨y0, y1, y2, y3, y4, y5⟩ := hSw
        first | (go_simp; done) | (go_simp; with_reducible rfl)
      try simp only [Act.put, List.setIfInBounds_toArray, List.set_cons_zero, List.set_cons_succ]
      refine wpAnyH_done (by kernel_rfl) ?_ _
      have hBB := hH.1
      have hRR := hH.2.1
      obtain ⟨W, hW, s0, s1, s2, s3⟩ := resR_set hRR x0 x1 y0 y1
      have HB' := setBelow4 hBB (Nat.le_refl w.heap.size) (.int .u64 x0) (.int .u64 x1) (.int .u64 y0) (.int .u64 y1)
      obtain ⟨_, _, m0, m1, m2, m3⟩ := hH
      obtain ⟨c0, c1, c2, c3, f0, f1, f2, f3⟩ := hRR
      go_wp2_with fail
      rw [← hW] at HB' ⊢
      exact bodyPost_ret (v := .tuple #[.agg #[.int .u64 x0, .int .u64 x1, .int .u64 y0, .int .u64 y1], .int .i64 0]) (by simp [results, Tryz.results7, go_sem, s0, s1, s2, s3]) rfl ⟨rfl, HB'⟩
end Go.Proofs.YtgbkeciimddpnaaGreatDoor.Ranges
