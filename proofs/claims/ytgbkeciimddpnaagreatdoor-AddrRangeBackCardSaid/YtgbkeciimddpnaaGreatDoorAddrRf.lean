/-
Ranges in text: the program's PrintRange.
Conditions: the library's tables hold what they hold; numbers of 64 bits.
-/
import Derived.Test.YtgbkeciimddpnaaGreatDoorAddrRx
import Derived.Deep.RegionHeld3
namespace Go.Proofs.YtgbkeciimddpnaaGreatDoor.Ranges
open Go Go.RowKit Go.Proofs.YtgbkeciimddpnaaGreatDoorW.PrintWords Go.Proofs.YtgbkeciimddpnaaGreatDoor.Print Go.Proofs.YtgbkeciimddpnaaGreatDoor.AddrP
/-- A range that lies in memory, and nothing old is touched. -/
def PS (w : World) (f0 f1 t0 t1 : Int) (w' : World) : Prop := Below w.heap.size w w' ∧ w'.cell? ⟨w.heap.size, 0, none⟩ = some (.int .u64 f0) ∧ w'.cell? ⟨w.heap.size, 1, none⟩ = some (.int .u64 f1) ∧ w'.cell? ⟨w.heap.size, 2, none⟩ = some (.int .u64 t0) ∧ w'.cell? ⟨w.heap.size, 3, none⟩ = some (.int .u64 t1)
theorem PS_below {w : World} {f0 f1 t0 t1 : Int} {w' w2 : World} (h : PS w f0 f1 t0 t1 w') (hb : Below w'.heap.size w' w2) : PS w f0 f1 t0 t1 w2 := by
  obtain ⟨h1, h3, h4, h5, h6⟩ := h
  exact ⟨bnext h1 hb, pw_cell_below hb h3, pw_cell_below hb h4, pw_cell_below hb h5, pw_cell_below hb h6⟩
theorem PS_new (w : World) (f0 f1 t0 t1 : Int) (T : TypeId) : PS w f0 f1 t0 t1 (w.alloc (.cells #[.int .u64 f0, .int .u64 f1, .int .u64 t0, .int .u64 t1] T)) := by
  refine ⟨ba1 _ _, ?_, ?_, ?_, ?_⟩ <;> go_simp
set_option maxRecDepth 100000 in
set_option maxHeartbeats 6400000 in
theorem pr_refused (f0 f1 t0 t1 v : Int) (b1 b2 : Bool) (w : World) (hq : Hid (0 < v ∨ (¬ 0 < v ∧ b1 = !b2)))
    (h20 : ∀ w, Calls Tryz.prog 20 #[.agg #[.int .u64 f0, .int .u64 f1], .agg #[.int .u64 t0, .int .u64 t1]] w fun e' w' => e' = .returned (.int .i64 v) ∧ Below w.heap.size w w')
    (h13 : ∀ w, Calls Tryz.prog 13 #[.agg #[.int .u64 f0, .int .u64 f1]] w fun e' w' => e' = .returned (.bool b1) ∧ Below w.heap.size w w')
    (h13b : ∀ w, Calls Tryz.prog 13 #[.agg #[.int .u64 t0, .int .u64 t1]] w fun e' w' => e' = .returned (.bool b2) ∧ Below w.heap.size w w') :
    Calls Tryz.prog 9 #[.agg #[.int .u64 f0, .int .u64 f1, .int .u64 t0, .int .u64 t1]] w fun e' w' => e' = .returned (.tuple #[.string ⟨#[]⟩, .int .i64 31]) ∧ Below w.heap.size w w' := by
  have H20 := Lib.hid h20
  have H13 := Lib.hid h13
  have H13b := Lib.hid h13b
  clear h20 h13 h13b
  have hS := PS_new w f0 f1 t0 t1 26
  go_enter Tryz.func9, Tryz.ntmps9
  go_wp2_with fail
  generalize w.alloc (.cells #[.int .u64 f0, .int .u64 f1, .int .u64 t0, .int .u64 t1] 26) = w4 at hS ⊢
  rcases hq.out with hv | ⟨hv, hb⟩
  · have hv2 : decide (0 < v) = true := decide_eq_true hv
    try simp only [List.append_eq, List.cons_append, List.nil_append]
    refine wp_region_held_drew (S := PS w f0 f1 t0 t1) (by kernel_rfl) (PS_below hS (Below.drew (Below.refl _ _))) (fun hH => ?_)
    refine wpAnyH_take (i := 0) (oi := { dst := some 7, op := Op.fieldAddr 26 (Operand.tmp 1) 0, type := 0, pos := "addr.go:207", after := #[], guard := none }) (v := ?_) rfl (by kernel_rfl) (by kernel_rfl) (by kernel_rfl) (fun _ _ _ h => h) (Or.inl ⟨by rfl, ?_⟩) hH ?_
    rotate_left
    · intro w hSw
      obtain ⟨y0, y1, y2, y3, y4⟩ := hSw
      first | (go_simp; done) | (go_simp; with_reducible rfl)
    try simp only [Act.put, List.setIfInBounds_toArray, List.set_cons_zero, List.set_cons_succ]
    refine wpAnyH_take (i := 1) (oi := { dst := some 8, op := Op.load 24 (Operand.tmp 7), type := 24, pos := "addr.go:207", after := #[{ on := 0, ground := Ground.data }], guard := none }) (v := ?_) rfl (by kernel_rfl) (by kernel_rfl) (by kernel_rfl) (fun _ _ _ h => h) (Or.inl ⟨by rfl, ?_⟩) hH ?_
    rotate_left
    · intro w hSw
      obtain ⟨y0, y1, y2, y3, y4⟩ := hSw
      first | (go_simp; done) | (go_simp; with_reducible rfl)
    try simp only [Act.put, List.setIfInBounds_toArray, List.set_cons_zero, List.set_cons_succ]
    refine wpAnyH_take (i := 2) (oi := { dst := some 9, op := Op.fieldAddr 26 (Operand.tmp 1) 1, type := 0, pos := "addr.go:207", after := #[], guard := none }) (v := ?_) rfl (by kernel_rfl) (by kernel_rfl) (by kernel_rfl) (fun _ _ _ h => h) (Or.inl ⟨by rfl, ?_⟩) hH ?_
    rotate_left
    · intro w hSw
      obtain ⟨y0, y1, y2, y3, y4⟩ := hSw
      first | (go_simp; done) | (go_simp; with_reducible rfl)
    try simp only [Act.put, List.setIfInBounds_toArray, List.set_cons_zero, List.set_cons_succ]
    refine wpAnyH_take (i := 3) (oi := { dst := some 10, op := Op.load 24 (Operand.tmp 9), type := 24, pos := "addr.go:207", after := #[{ on := 2, ground := Ground.data }], guard := none }) (v := ?_) rfl (by kernel_rfl) (by kernel_rfl) (by kernel_rfl) (fun _ _ _ h => h) (Or.inl ⟨by rfl, ?_⟩) hH ?_
    rotate_left
    · intro w hSw
      obtain ⟨y0, y1, y2, y3, y4⟩ := hSw
      first | (go_simp; done) | (go_simp; with_reducible rfl)
    try simp only [Act.put, List.setIfInBounds_toArray, List.set_cons_zero, List.set_cons_succ]
    refine wpAnyH_ready (rs := [4]) (by kernel_rfl) (by simp) ?_
    refine AllReadyH.cons (o := { dst := some 11, op := Op.call { callee := Callee.value (Operand.func 20), args := #[Operand.tmp 8, Operand.tmp 10], argTypes := #[24, 24] }, type := 3, pos := "addr.go:207", after := #[{ on := 1, ground := Ground.data }, { on := 3, ground := Ground.data }], guard := none }) rfl (fun K hK => ?_) AllReadyH.nil
    go_simp
    refine (H20.out _).mono ?_
    rintro e wn ⟨rfl, hb⟩
    go_wp2_with fail
    refine hK.out _ _ (PS_below hH hb) (fun hH2 => ?_)
    clear hK K hH hb
    have hH := hH2
    clear hH2
    try simp only [Act.put, List.setIfInBounds_toArray, List.set_cons_zero, List.set_cons_succ]
    refine wpAnyH_take (i := 5) (oi := { dst := some 12, op := Op.binOp BinOp.gtr 3 (Operand.tmp 11) (Operand.const (Value.int IntKind.i64 0)) 3, type := 4, pos := "addr.go:207", after := #[{ on := 4, ground := Ground.data }], guard := none }) (v := ?_) rfl (by kernel_rfl) (by kernel_rfl) (by kernel_rfl) (fun _ _ _ h => h) (Or.inl ⟨by rfl, ?_⟩) hH ?_
    rotate_left
    · intro w hSw
      obtain ⟨y0, y1, y2, y3, y4⟩ := hSw
      first | (go_simp; done) | (go_simp; with_reducible rfl)
    try simp only [Act.put, List.setIfInBounds_toArray, List.set_cons_zero, List.set_cons_succ]
    refine wpAnyH_take (i := 6) (oi := { dst := some 13, op := Op.move (Operand.tmp 12), type := 4, pos := "addr.go:207", after := #[{ on := 5, ground := Ground.data }, { on := 4, ground := Ground.chain }], guard := none }) (v := ?_) rfl (by kernel_rfl) (by kernel_rfl) (by kernel_rfl) (fun _ _ _ h => h) (Or.inl ⟨by rfl, ?_⟩) hH ?_
    rotate_left
    · intro w hSw
      obtain ⟨y0, y1, y2, y3, y4⟩ := hSw
      first | (go_simp; done) | (go_simp; with_reducible rfl)
    try simp only [Act.put, List.setIfInBounds_toArray, List.set_cons_zero, List.set_cons_succ]
    refine wpAnyH_take (i := 7) (oi := { dst := some 14, op := Op.fieldAddr 26 (Operand.tmp 1) 0, type := 0, pos := "addr.go:207", after := #[{ on := 6, ground := Ground.guard }], guard := some (6, false) }) (v := undef) rfl (by kernel_rfl) (by kernel_rfl) (by kernel_rfl) (fun _ _ _ h => h) (Or.inr ⟨by rfl, rfl⟩) hH ?_
    try simp only [Act.put, List.setIfInBounds_toArray, List.set_cons_zero, List.set_cons_succ]
    refine wpAnyH_take (i := 8) (oi := { dst := some 15, op := Op.load 24 (Operand.tmp 14), type := 24, pos := "addr.go:207", after := #[{ on := 7, ground := Ground.data }, { on := 6, ground := Ground.guard }], guard := some (6, false) }) (v := undef) rfl (by kernel_rfl) (by kernel_rfl) (by kernel_rfl) (fun _ _ _ h => h) (Or.inr ⟨by rfl, rfl⟩) hH ?_
    try simp only [Act.put, List.setIfInBounds_toArray, List.set_cons_zero, List.set_cons_succ]
    refine wpAnyH_take (i := 9) (oi := { dst := some 16, op := Op.call { callee := Callee.value (Operand.func 13), args := #[Operand.tmp 15], argTypes := #[24] }, type := 4, pos := "addr.go:207", after := #[{ on := 8, ground := Ground.data }, { on := 6, ground := Ground.chain }, { on := 6, ground := Ground.guard }], guard := some (6, false) }) (v := undef) rfl (by kernel_rfl) (by kernel_rfl) (by kernel_rfl) (fun _ _ _ h => h) (Or.inr ⟨by rfl, rfl⟩) hH ?_
    try simp only [Act.put, List.setIfInBounds_toArray, List.set_cons_zero, List.set_cons_succ]
    refine wpAnyH_take (i := 10) (oi := { dst := some 17, op := Op.fieldAddr 26 (Operand.tmp 1) 1, type := 0, pos := "addr.go:207", after := #[{ on := 6, ground := Ground.guard }], guard := some (6, false) }) (v := undef) rfl (by kernel_rfl) (by kernel_rfl) (by kernel_rfl) (fun _ _ _ h => h) (Or.inr ⟨by rfl, rfl⟩) hH ?_
    try simp only [Act.put, List.setIfInBounds_toArray, List.set_cons_zero, List.set_cons_succ]
    refine wpAnyH_take (i := 11) (oi := { dst := some 18, op := Op.load 24 (Operand.tmp 17), type := 24, pos := "addr.go:207", after := #[{ on := 10, ground := Ground.data }, { on := 6, ground := Ground.guard }], guard := some (6, false) }) (v := undef) rfl (by kernel_rfl) (by kernel_rfl) (by kernel_rfl) (fun _ _ _ h => h) (Or.inr ⟨by rfl, rfl⟩) hH ?_
    try simp only [Act.put, List.setIfInBounds_toArray, List.set_cons_zero, List.set_cons_succ]
    refine wpAnyH_take (i := 12) (oi := { dst := some 19, op := Op.call { callee := Callee.value (Operand.func 13), args := #[Operand.tmp 18], argTypes := #[24] }, type := 4, pos := "addr.go:207", after := #[{ on := 11, ground := Ground.data }, { on := 9, ground := Ground.chain }, { on := 6, ground := Ground.guard }], guard := some (6, false) }) (v := undef) rfl (by kernel_rfl) (by kernel_rfl) (by kernel_rfl) (fun _ _ _ h => h) (Or.inr ⟨by rfl, rfl⟩) hH ?_
    try simp only [Act.put, List.setIfInBounds_toArray, List.set_cons_zero, List.set_cons_succ]
    refine wpAnyH_take (i := 13) (oi := { dst := some 20, op := Op.binOp BinOp.neq 4 (Operand.tmp 16) (Operand.tmp 19) 4, type := 4, pos := "addr.go:207", after := #[{ on := 9, ground := Ground.data }, { on := 12, ground := Ground.data }, { on := 6, ground := Ground.guard }], guard := some (6, false) }) (v := undef) rfl (by kernel_rfl) (by kernel_rfl) (by kernel_rfl) (fun _ _ _ h => h) (Or.inr ⟨by rfl, rfl⟩) hH ?_
    try simp only [Act.put, List.setIfInBounds_toArray, List.set_cons_zero, List.set_cons_succ]
    refine wpAnyH_take (i := 14) (oi := { dst := some 21, op := Op.pick (Operand.tmp 13) (Operand.const (Value.bool true)) (Operand.tmp 20), type := 4, pos := "addr.go:207", after := #[{ on := 6, ground := Ground.data }, { on := 13, ground := Ground.data }], guard := none }) (v := ?_) rfl (by kernel_rfl) (by kernel_rfl) (by kernel_rfl) (fun _ _ _ h => h) (Or.inl ⟨by rfl, ?_⟩) hH ?_
    rotate_left
    · intro w hSw
      obtain ⟨y0, y1, y2, y3, y4⟩ := hSw
      first | (go_simp; done) | (go_simp; with_reducible rfl)
    try simp only [Act.put, List.setIfInBounds_toArray, List.set_cons_zero, List.set_cons_succ]
    refine wpAnyH_done (by kernel_rfl) ?_ _
    have hBB := hH.1
    go_wp2_with fail
    exact bodyPost_ret (v := .tuple #[.string ⟨#[]⟩, .int .i64 31]) (by simp [results, Tryz.results9, go_sem]) rfl ⟨rfl, hBB⟩
  · have hv2 : decide (0 < v) = false := decide_eq_false (by omega)
    cases b1 <;> cases b2 <;> first | cases hb | skip
    all_goals
      try simp only [List.append_eq, List.cons_append, List.nil_append]
      refine wp_region_held_drew (S := PS w f0 f1 t0 t1) (by kernel_rfl) (PS_below hS (Below.drew (Below.refl _ _))) (fun hH => ?_)
      refine wpAnyH_take (i := 0) (oi := { dst := some 7, op := Op.fieldAddr 26 (Operand.tmp 1) 0, type := 0, pos := "addr.go:207", after := #[], guard := none }) (v := ?_) rfl (by kernel_rfl) (by kernel_rfl) (by kernel_rfl) (fun _ _ _ h => h) (Or.inl ⟨by rfl, ?_⟩) hH ?_
      rotate_left
      · intro w hSw
        obtain ⟨y0, y1, y2, y3, y4⟩ := hSw
        first | (go_simp; done) | (go_simp; with_reducible rfl)
      try simp only [Act.put, List.setIfInBounds_toArray, List.set_cons_zero, List.set_cons_succ]
      refine wpAnyH_take (i := 1) (oi := { dst := some 8, op := Op.load 24 (Operand.tmp 7), type := 24, pos := "addr.go:207", after := #[{ on := 0, ground := Ground.data }], guard := none }) (v := ?_) rfl (by kernel_rfl) (by kernel_rfl) (by kernel_rfl) (fun _ _ _ h => h) (Or.inl ⟨by rfl, ?_⟩) hH ?_
      rotate_left
      · intro w hSw
        obtain ⟨y0, y1, y2, y3, y4⟩ := hSw
        first | (go_simp; done) | (go_simp; with_reducible rfl)
      try simp only [Act.put, List.setIfInBounds_toArray, List.set_cons_zero, List.set_cons_succ]
      refine wpAnyH_take (i := 2) (oi := { dst := some 9, op := Op.fieldAddr 26 (Operand.tmp 1) 1, type := 0, pos := "addr.go:207", after := #[], guard := none }) (v := ?_) rfl (by kernel_rfl) (by kernel_rfl) (by kernel_rfl) (fun _ _ _ h => h) (Or.inl ⟨by rfl, ?_⟩) hH ?_
      rotate_left
      · intro w hSw
        obtain ⟨y0, y1, y2, y3, y4⟩ := hSw
        first | (go_simp; done) | (go_simp; with_reducible rfl)
      try simp only [Act.put, List.setIfInBounds_toArray, List.set_cons_zero, List.set_cons_succ]
      refine wpAnyH_take (i := 3) (oi := { dst := some 10, op := Op.load 24 (Operand.tmp 9), type := 24, pos := "addr.go:207", after := #[{ on := 2, ground := Ground.data }], guard := none }) (v := ?_) rfl (by kernel_rfl) (by kernel_rfl) (by kernel_rfl) (fun _ _ _ h => h) (Or.inl ⟨by rfl, ?_⟩) hH ?_
      rotate_left
      · intro w hSw
        obtain ⟨y0, y1, y2, y3, y4⟩ := hSw
        first | (go_simp; done) | (go_simp; with_reducible rfl)
      try simp only [Act.put, List.setIfInBounds_toArray, List.set_cons_zero, List.set_cons_succ]
      refine wpAnyH_ready (rs := [4]) (by kernel_rfl) (by simp) ?_
      refine AllReadyH.cons (o := { dst := some 11, op := Op.call { callee := Callee.value (Operand.func 20), args := #[Operand.tmp 8, Operand.tmp 10], argTypes := #[24, 24] }, type := 3, pos := "addr.go:207", after := #[{ on := 1, ground := Ground.data }, { on := 3, ground := Ground.data }], guard := none }) rfl (fun K hK => ?_) AllReadyH.nil
      go_simp
      refine (H20.out _).mono ?_
      rintro e wn ⟨rfl, hb⟩
      go_wp2_with fail
      refine hK.out _ _ (PS_below hH hb) (fun hH2 => ?_)
      clear hK K hH hb
      have hH := hH2
      clear hH2
      try simp only [Act.put, List.setIfInBounds_toArray, List.set_cons_zero, List.set_cons_succ]
      refine wpAnyH_take (i := 5) (oi := { dst := some 12, op := Op.binOp BinOp.gtr 3 (Operand.tmp 11) (Operand.const (Value.int IntKind.i64 0)) 3, type := 4, pos := "addr.go:207", after := #[{ on := 4, ground := Ground.data }], guard := none }) (v := ?_) rfl (by kernel_rfl) (by kernel_rfl) (by kernel_rfl) (fun _ _ _ h => h) (Or.inl ⟨by rfl, ?_⟩) hH ?_
      rotate_left
      · intro w hSw
        obtain ⟨y0, y1, y2, y3, y4⟩ := hSw
        first | (go_simp; done) | (go_simp; with_reducible rfl)
      try simp only [Act.put, List.setIfInBounds_toArray, List.set_cons_zero, List.set_cons_succ]
      refine wpAnyH_take (i := 6) (oi := { dst := some 13, op := Op.move (Operand.tmp 12), type := 4, pos := "addr.go:207", after := #[{ on := 5, ground := Ground.data }, { on := 4, ground := Ground.chain }], guard := none }) (v := ?_) rfl (by kernel_rfl) (by kernel_rfl) (by kernel_rfl) (fun _ _ _ h => h) (Or.inl ⟨by rfl, ?_⟩) hH ?_
      rotate_left
      · intro w hSw
        obtain ⟨y0, y1, y2, y3, y4⟩ := hSw
        first | (go_simp; done) | (go_simp; with_reducible rfl)
      try simp only [Act.put, List.setIfInBounds_toArray, List.set_cons_zero, List.set_cons_succ]
      refine wpAnyH_take (i := 7) (oi := { dst := some 14, op := Op.fieldAddr 26 (Operand.tmp 1) 0, type := 0, pos := "addr.go:207", after := #[{ on := 6, ground := Ground.guard }], guard := some (6, false) }) (v := ?_) rfl (by kernel_rfl) (by kernel_rfl) (by kernel_rfl) (fun _ _ _ h => h) (Or.inl ⟨by rfl, ?_⟩) hH ?_
      rotate_left
      · intro w hSw
        obtain ⟨y0, y1, y2, y3, y4⟩ := hSw
        first | (go_simp; done) | (go_simp; with_reducible rfl)
      try simp only [Act.put, List.setIfInBounds_toArray, List.set_cons_zero, List.set_cons_succ]
      refine wpAnyH_take (i := 8) (oi := { dst := some 15, op := Op.load 24 (Operand.tmp 14), type := 24, pos := "addr.go:207", after := #[{ on := 7, ground := Ground.data }, { on := 6, ground := Ground.guard }], guard := some (6, false) }) (v := ?_) rfl (by kernel_rfl) (by kernel_rfl) (by kernel_rfl) (fun _ _ _ h => h) (Or.inl ⟨by rfl, ?_⟩) hH ?_
      rotate_left
      · intro w hSw
        obtain ⟨y0, y1, y2, y3, y4⟩ := hSw
        first | (go_simp; done) | (go_simp; with_reducible rfl)
      try simp only [Act.put, List.setIfInBounds_toArray, List.set_cons_zero, List.set_cons_succ]
      refine wpAnyH_take (i := 10) (oi := { dst := some 17, op := Op.fieldAddr 26 (Operand.tmp 1) 1, type := 0, pos := "addr.go:207", after := #[{ on := 6, ground := Ground.guard }], guard := some (6, false) }) (v := ?_) rfl (by kernel_rfl) (by kernel_rfl) (by kernel_rfl) (fun _ _ _ h => h) (Or.inl ⟨by rfl, ?_⟩) hH ?_
      rotate_left
      · intro w hSw
        obtain ⟨y0, y1, y2, y3, y4⟩ := hSw
        first | (go_simp; done) | (go_simp; with_reducible rfl)
      try simp only [Act.put, List.setIfInBounds_toArray, List.set_cons_zero, List.set_cons_succ]
      refine wpAnyH_take (i := 11) (oi := { dst := some 18, op := Op.load 24 (Operand.tmp 17), type := 24, pos := "addr.go:207", after := #[{ on := 10, ground := Ground.data }, { on := 6, ground := Ground.guard }], guard := some (6, false) }) (v := ?_) rfl (by kernel_rfl) (by kernel_rfl) (by kernel_rfl) (fun _ _ _ h => h) (Or.inl ⟨by rfl, ?_⟩) hH ?_
      rotate_left
      · intro w hSw
        obtain ⟨y0, y1, y2, y3, y4⟩ := hSw
        first | (go_simp; done) | (go_simp; with_reducible rfl)
      try simp only [Act.put, List.setIfInBounds_toArray, List.set_cons_zero, List.set_cons_succ]
      refine wpAnyH_ready (rs := [9]) (by kernel_rfl) (by simp) ?_
      refine AllReadyH.cons (o := { dst := some 16, op := Op.call { callee := Callee.value (Operand.func 13), args := #[Operand.tmp 15], argTypes := #[24] }, type := 4, pos := "addr.go:207", after := #[{ on := 8, ground := Ground.data }, { on := 6, ground := Ground.chain }, { on := 6, ground := Ground.guard }], guard := some (6, false) }) rfl (fun K hK => ?_) AllReadyH.nil
      go_simp
      refine (H13.out _).mono ?_
      rintro e wn ⟨rfl, hb⟩
      go_wp2_with fail
      refine hK.out _ _ (PS_below hH hb) (fun hH2 => ?_)
      clear hK K hH hb
      have hH := hH2
      clear hH2
      try simp only [Act.put, List.setIfInBounds_toArray, List.set_cons_zero, List.set_cons_succ]
      refine wpAnyH_ready (rs := [12]) (by kernel_rfl) (by simp) ?_
      refine AllReadyH.cons (o := { dst := some 19, op := Op.call { callee := Callee.value (Operand.func 13), args := #[Operand.tmp 18], argTypes := #[24] }, type := 4, pos := "addr.go:207", after := #[{ on := 11, ground := Ground.data }, { on := 9, ground := Ground.chain }, { on := 6, ground := Ground.guard }], guard := some (6, false) }) rfl (fun K hK => ?_) AllReadyH.nil
      go_simp
      refine (H13b.out _).mono ?_
      rintro e wn ⟨rfl, hb⟩
      go_wp2_with fail
      refine hK.out _ _ (PS_below hH hb) (fun hH2 => ?_)
      clear hK K hH hb
      have hH := hH2
      clear hH2
      try simp only [Act.put, List.setIfInBounds_toArray, List.set_cons_zero, List.set_cons_succ]
      refine wpAnyH_take (i := 13) (oi := { dst := some 20, op := Op.binOp BinOp.neq 4 (Operand.tmp 16) (Operand.tmp 19) 4, type := 4, pos := "addr.go:207", after := #[{ on := 9, ground := Ground.data }, { on := 12, ground := Ground.data }, { on := 6, ground := Ground.guard }], guard := some (6, false) }) (v := ?_) rfl (by kernel_rfl) (by kernel_rfl) (by kernel_rfl) (fun _ _ _ h => h) (Or.inl ⟨by rfl, ?_⟩) hH ?_
      rotate_left
      · intro w hSw
        obtain ⟨y0, y1, y2, y3, y4⟩ := hSw
        first | (go_simp; done) | (go_simp; with_reducible rfl)
      try simp only [Act.put, List.setIfInBounds_toArray, List.set_cons_zero, List.set_cons_succ]
      refine wpAnyH_take (i := 14) (oi := { dst := some 21, op := Op.pick (Operand.tmp 13) (Operand.const (Value.bool true)) (Operand.tmp 20), type := 4, pos := "addr.go:207", after := #[{ on := 6, ground := Ground.data }, { on := 13, ground := Ground.data }], guard := none }) (v := ?_) rfl (by kernel_rfl) (by kernel_rfl) (by kernel_rfl) (fun _ _ _ h => h) (Or.inl ⟨by rfl, ?_⟩) hH ?_
      rotate_left
      · intro w hSw
        obtain ⟨y0, y1, y2, y3, y4⟩ := hSw
        first | (go_simp; done) | (go_simp; with_reducible rfl)
      try simp only [Act.put, List.setIfInBounds_toArray, List.set_cons_zero, List.set_cons_succ]
      refine wpAnyH_done (by kernel_rfl) ?_ _
      have hBB := hH.1
      go_wp2_with fail
      exact bodyPost_ret (v := .tuple #[.string ⟨#[]⟩, .int .i64 31]) (by simp [results, Tryz.results9, go_sem]) rfl ⟨rfl, hBB⟩
set_option maxRecDepth 100000 in
set_option maxHeartbeats 6400000 in
theorem pr_same (f0 f1 t0 t1 v : Int) (b1 : Bool) (T : ByteArray) (w : World) (hv : ¬ 0 < v) (e0 : f0 = t0) (e1 : f1 = t1) (hp : PrVars w)
    (h25 : ∀ w, PrVars w → Calls Tryz.prog 25 #[.agg #[.int .u64 f0, .int .u64 f1]] w fun e' w' => e' = .returned (.string T) ∧ Below w.heap.size w w')
    (h20 : ∀ w, Calls Tryz.prog 20 #[.agg #[.int .u64 f0, .int .u64 f1], .agg #[.int .u64 t0, .int .u64 t1]] w fun e' w' => e' = .returned (.int .i64 v) ∧ Below w.heap.size w w')
    (h13 : ∀ w, Calls Tryz.prog 13 #[.agg #[.int .u64 f0, .int .u64 f1]] w fun e' w' => e' = .returned (.bool b1) ∧ Below w.heap.size w w')
    (h13b : ∀ w, Calls Tryz.prog 13 #[.agg #[.int .u64 t0, .int .u64 t1]] w fun e' w' => e' = .returned (.bool b1) ∧ Below w.heap.size w w') :
    Calls Tryz.prog 9 #[.agg #[.int .u64 f0, .int .u64 f1, .int .u64 t0, .int .u64 t1]] w fun e' w' => e' = .returned (.tuple #[.string T, .int .i64 0]) ∧ Below w.heap.size w w' := by
  have H25 := Lib.hid h25
  have HP := Lib.hid hp
  have HE := Lib.hid (And.intro e0 e1)
  clear h25 hp e0 e1
  have H20 := Lib.hid h20
  have H13 := Lib.hid h13
  have H13b := Lib.hid h13b
  clear h20 h13 h13b
  have hS := PS_new w f0 f1 t0 t1 26
  go_enter Tryz.func9, Tryz.ntmps9
  go_wp2_with fail
  generalize w.alloc (.cells #[.int .u64 f0, .int .u64 f1, .int .u64 t0, .int .u64 t1] 26) = w4 at hS ⊢
  have hv2 : decide (0 < v) = false := decide_eq_false (by omega)
  cases b1
  all_goals
    try simp only [List.append_eq, List.cons_append, List.nil_append]
    refine wp_region_held_drew (S := PS w f0 f1 t0 t1) (by kernel_rfl) (PS_below hS (Below.drew (Below.refl _ _))) (fun hH => ?_)
    refine wpAnyH_take (i := 0) (oi := { dst := some 7, op := Op.fieldAddr 26 (Operand.tmp 1) 0, type := 0, pos := "addr.go:207", after := #[], guard := none }) (v := ?_) rfl (by kernel_rfl) (by kernel_rfl) (by kernel_rfl) (fun _ _ _ h => h) (Or.inl ⟨by rfl, ?_⟩) hH ?_
    rotate_left
    · intro w hSw
      obtain ⟨y0, y1, y2, y3, y4⟩ := hSw
      first | (go_simp; done) | (go_simp; with_reducible rfl)
    try simp only [Act.put, List.setIfInBounds_toArray, List.set_cons_zero, List.set_cons_succ]
    refine wpAnyH_take (i := 1) (oi := { dst := some 8, op := Op.load 24 (Operand.tmp 7), type := 24, pos := "addr.go:207", after := #[{ on := 0, ground := Ground.data }], guard := none }) (v := ?_) rfl (by kernel_rfl) (by kernel_rfl) (by kernel_rfl) (fun _ _ _ h => h) (Or.inl ⟨by rfl, ?_⟩) hH ?_
    rotate_left
    · intro w hSw
      obtain ⟨y0, y1, y2, y3, y4⟩ := hSw
      first | (go_simp; done) | (go_simp; with_reducible rfl)
    try simp only [Act.put, List.setIfInBounds_toArray, List.set_cons_zero, List.set_cons_succ]
    refine wpAnyH_take (i := 2) (oi := { dst := some 9, op := Op.fieldAddr 26 (Operand.tmp 1) 1, type := 0, pos := "addr.go:207", after := #[], guard := none }) (v := ?_) rfl (by kernel_rfl) (by kernel_rfl) (by kernel_rfl) (fun _ _ _ h => h) (Or.inl ⟨by rfl, ?_⟩) hH ?_
    rotate_left
    · intro w hSw
      obtain ⟨y0, y1, y2, y3, y4⟩ := hSw
      first | (go_simp; done) | (go_simp; with_reducible rfl)
    try simp only [Act.put, List.setIfInBounds_toArray, List.set_cons_zero, List.set_cons_succ]
    refine wpAnyH_take (i := 3) (oi := { dst := some 10, op := Op.load 24 (Operand.tmp 9), type := 24, pos := "addr.go:207", after := #[{ on := 2, ground := Ground.data }], guard := none }) (v := ?_) rfl (by kernel_rfl) (by kernel_rfl) (by kernel_rfl) (fun _ _ _ h => h) (Or.inl ⟨by rfl, ?_⟩) hH ?_
    rotate_left
    · intro w hSw
      obtain ⟨y0, y1, y2, y3, y4⟩ := hSw
      first | (go_simp; done) | (go_simp; with_reducible rfl)
    try simp only [Act.put, List.setIfInBounds_toArray, List.set_cons_zero, List.set_cons_succ]
    refine wpAnyH_ready (rs := [4]) (by kernel_rfl) (by simp) ?_
    refine AllReadyH.cons (o := { dst := some 11, op := Op.call { callee := Callee.value (Operand.func 20), args := #[Operand.tmp 8, Operand.tmp 10], argTypes := #[24, 24] }, type := 3, pos := "addr.go:207", after := #[{ on := 1, ground := Ground.data }, { on := 3, ground := Ground.data }], guard := none }) rfl (fun K hK => ?_) AllReadyH.nil
    go_simp
    refine (H20.out _).mono ?_
    rintro e wn ⟨rfl, hb⟩
    go_wp2_with fail
    refine hK.out _ _ (PS_below hH hb) (fun hH2 => ?_)
    clear hK K hH hb
    have hH := hH2
    clear hH2
    try simp only [Act.put, List.setIfInBounds_toArray, List.set_cons_zero, List.set_cons_succ]
    refine wpAnyH_take (i := 5) (oi := { dst := some 12, op := Op.binOp BinOp.gtr 3 (Operand.tmp 11) (Operand.const (Value.int IntKind.i64 0)) 3, type := 4, pos := "addr.go:207", after := #[{ on := 4, ground := Ground.data }], guard := none }) (v := ?_) rfl (by kernel_rfl) (by kernel_rfl) (by kernel_rfl) (fun _ _ _ h => h) (Or.inl ⟨by rfl, ?_⟩) hH ?_
    rotate_left
    · intro w hSw
      obtain ⟨y0, y1, y2, y3, y4⟩ := hSw
      first | (go_simp; done) | (go_simp; with_reducible rfl)
    try simp only [Act.put, List.setIfInBounds_toArray, List.set_cons_zero, List.set_cons_succ]
    refine wpAnyH_take (i := 6) (oi := { dst := some 13, op := Op.move (Operand.tmp 12), type := 4, pos := "addr.go:207", after := #[{ on := 5, ground := Ground.data }, { on := 4, ground := Ground.chain }], guard := none }) (v := ?_) rfl (by kernel_rfl) (by kernel_rfl) (by kernel_rfl) (fun _ _ _ h => h) (Or.inl ⟨by rfl, ?_⟩) hH ?_
    rotate_left
    · intro w hSw
      obtain ⟨y0, y1, y2, y3, y4⟩ := hSw
      first | (go_simp; done) | (go_simp; with_reducible rfl)
    try simp only [Act.put, List.setIfInBounds_toArray, List.set_cons_zero, List.set_cons_succ]
    refine wpAnyH_take (i := 7) (oi := { dst := some 14, op := Op.fieldAddr 26 (Operand.tmp 1) 0, type := 0, pos := "addr.go:207", after := #[{ on := 6, ground := Ground.guard }], guard := some (6, false) }) (v := ?_) rfl (by kernel_rfl) (by kernel_rfl) (by kernel_rfl) (fun _ _ _ h => h) (Or.inl ⟨by rfl, ?_⟩) hH ?_
    rotate_left
    · intro w hSw
      obtain ⟨y0, y1, y2, y3, y4⟩ := hSw
      first | (go_simp; done) | (go_simp; with_reducible rfl)
    try simp only [Act.put, List.setIfInBounds_toArray, List.set_cons_zero, List.set_cons_succ]
    refine wpAnyH_take (i := 8) (oi := { dst := some 15, op := Op.load 24 (Operand.tmp 14), type := 24, pos := "addr.go:207", after := #[{ on := 7, ground := Ground.data }, { on := 6, ground := Ground.guard }], guard := some (6, false) }) (v := ?_) rfl (by kernel_rfl) (by kernel_rfl) (by kernel_rfl) (fun _ _ _ h => h) (Or.inl ⟨by rfl, ?_⟩) hH ?_
    rotate_left
    · intro w hSw
      obtain ⟨y0, y1, y2, y3, y4⟩ := hSw
      first | (go_simp; done) | (go_simp; with_reducible rfl)
    try simp only [Act.put, List.setIfInBounds_toArray, List.set_cons_zero, List.set_cons_succ]
    refine wpAnyH_take (i := 10) (oi := { dst := some 17, op := Op.fieldAddr 26 (Operand.tmp 1) 1, type := 0, pos := "addr.go:207", after := #[{ on := 6, ground := Ground.guard }], guard := some (6, false) }) (v := ?_) rfl (by kernel_rfl) (by kernel_rfl) (by kernel_rfl) (fun _ _ _ h => h) (Or.inl ⟨by rfl, ?_⟩) hH ?_
    rotate_left
    · intro w hSw
      obtain ⟨y0, y1, y2, y3, y4⟩ := hSw
      first | (go_simp; done) | (go_simp; with_reducible rfl)
    try simp only [Act.put, List.setIfInBounds_toArray, List.set_cons_zero, List.set_cons_succ]
    refine wpAnyH_take (i := 11) (oi := { dst := some 18, op := Op.load 24 (Operand.tmp 17), type := 24, pos := "addr.go:207", after := #[{ on := 10, ground := Ground.data }, { on := 6, ground := Ground.guard }], guard := some (6, false) }) (v := ?_) rfl (by kernel_rfl) (by kernel_rfl) (by kernel_rfl) (fun _ _ _ h => h) (Or.inl ⟨by rfl, ?_⟩) hH ?_
    rotate_left
    · intro w hSw
      obtain ⟨y0, y1, y2, y3, y4⟩ := hSw
      first | (go_simp; done) | (go_simp; with_reducible rfl)
    try simp only [Act.put, List.setIfInBounds_toArray, List.set_cons_zero, List.set_cons_succ]
    refine wpAnyH_ready (rs := [9]) (by kernel_rfl) (by simp) ?_
    refine AllReadyH.cons (o := { dst := some 16, op := Op.call { callee := Callee.value (Operand.func 13), args := #[Operand.tmp 15], argTypes := #[24] }, type := 4, pos := "addr.go:207", after := #[{ on := 8, ground := Ground.data }, { on := 6, ground := Ground.chain }, { on := 6, ground := Ground.guard }], guard := some (6, false) }) rfl (fun K hK => ?_) AllReadyH.nil
    go_simp
    refine (H13.out _).mono ?_
    rintro e wn ⟨rfl, hb⟩
    go_wp2_with fail
    refine hK.out _ _ (PS_below hH hb) (fun hH2 => ?_)
    clear hK K hH hb
    have hH := hH2
    clear hH2
    try simp only [Act.put, List.setIfInBounds_toArray, List.set_cons_zero, List.set_cons_succ]
    refine wpAnyH_ready (rs := [12]) (by kernel_rfl) (by simp) ?_
    refine AllReadyH.cons (o := { dst := some 19, op := Op.call { callee := Callee.value (Operand.func 13), args := #[Operand.tmp 18], argTypes := #[24] }, type := 4, pos := "addr.go:207", after := #[{ on := 11, ground := Ground.data }, { on := 9, ground := Ground.chain }, { on := 6, ground := Ground.guard }], guard := some (6, false) }) rfl (fun K hK => ?_) AllReadyH.nil
    go_simp
    refine (H13b.out _).mono ?_
    rintro e wn ⟨rfl, hb⟩
    go_wp2_with fail
    refine hK.out _ _ (PS_below hH hb) (fun hH2 => ?_)
    clear hK K hH hb
    have hH := hH2
    clear hH2
    try simp only [Act.put, List.setIfInBounds_toArray, List.set_cons_zero, List.set_cons_succ]
    refine wpAnyH_take (i := 13) (oi := { dst := some 20, op := Op.binOp BinOp.neq 4 (Operand.tmp 16) (Operand.tmp 19) 4, type := 4, pos := "addr.go:207", after := #[{ on := 9, ground := Ground.data }, { on := 12, ground := Ground.data }, { on := 6, ground := Ground.guard }], guard := some (6, false) }) (v := ?_) rfl (by kernel_rfl) (by kernel_rfl) (by kernel_rfl) (fun _ _ _ h => h) (Or.inl ⟨by rfl, ?_⟩) hH ?_
    rotate_left
    · intro w hSw
      obtain ⟨y0, y1, y2, y3, y4⟩ := hSw
      first | (go_simp; done) | (go_simp; with_reducible rfl)
    try simp only [Act.put, List.setIfInBounds_toArray, List.set_cons_zero, List.set_cons_succ]
    refine wpAnyH_take (i := 14) (oi := { dst := some 21, op := Op.pick (Operand.tmp 13) (Operand.const (Value.bool true)) (Operand.tmp 20), type := 4, pos := "addr.go:207", after := #[{ on := 6, ground := Ground.data }, { on := 13, ground := Ground.data }], guard := none }) (v := ?_) rfl (by kernel_rfl) (by kernel_rfl) (by kernel_rfl) (fun _ _ _ h => h) (Or.inl ⟨by rfl, ?_⟩) hH ?_
    rotate_left
    · intro w hSw
      obtain ⟨y0, y1, y2, y3, y4⟩ := hSw
      first | (go_simp; done) | (go_simp; with_reducible rfl)
    try simp only [Act.put, List.setIfInBounds_toArray, List.set_cons_zero, List.set_cons_succ]
    refine wpAnyH_done (by kernel_rfl) ?_ _
    obtain ⟨e0, e1⟩ := HE.out
    subst e0 e1
    obtain ⟨hBB, m0, m1, m2, m3⟩ := hH
    go_wp2_with fail
    refine (H25.out _ (HP.out.below hBB)).mono ?_
    rintro e' wz ⟨rfl, hbz⟩
    have hBz := bnext hBB hbz
    go_wp2_with fail
    exact bodyPost_ret (v := .tuple #[.string T, .int .i64 0]) (by simp [results, Tryz.results9, go_sem]) rfl ⟨rfl, hBz⟩
end Go.Proofs.YtgbkeciimddpnaaGreatDoor.Ranges
