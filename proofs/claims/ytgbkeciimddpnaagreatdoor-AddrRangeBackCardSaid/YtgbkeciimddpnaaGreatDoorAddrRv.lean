/-
Ranges in text: the reference's PrintRange.
Conditions: numbers of 64 bits.
-/
import Derived.Test.YtgbkeciimddpnaaGreatDoorAddrRu
import Derived.LoopTactic
namespace Go.Proofs.YtgbkeciimddpnaaGreatDoor.Ranges
open Go Go.RowKit Go.Proofs.YtgbkeciimddpnaaGreatDoorW.PrintWords Go.Proofs.YtgbkeciimddpnaaGreatDoor.Print Go.Proofs.YtgbkeciimddpnaaGreatDoor.AddrP
attribute [local go_sem high] eqA24 eqA26
set_option maxRecDepth 100000 in
set_option maxHeartbeats 6400000 in
theorem rpr_refused (f0 f1 t0 t1 : Int) (v b1 b2 : Bool) (w : World) (hq : Hid (v = true ∨ (v = false ∧ b1 = !b2)))
    (h24 : ∀ w, Calls Tryz.prog 24 #[.agg #[.int .u64 t0, .int .u64 t1], .agg #[.int .u64 f0, .int .u64 f1]] w fun e' w' => e' = .returned (.bool v) ∧ Below w.heap.size w w')
    (h15 : ∀ w, Calls Tryz.prog 15 #[.agg #[.int .u64 f0, .int .u64 f1]] w fun e' w' => e' = .returned (.bool b1) ∧ Below w.heap.size w w')
    (h15b : ∀ w, Calls Tryz.prog 15 #[.agg #[.int .u64 t0, .int .u64 t1]] w fun e' w' => e' = .returned (.bool b2) ∧ Below w.heap.size w w') :
    Calls Tryz.prog 10 #[.agg #[.int .u64 f0, .int .u64 f1, .int .u64 t0, .int .u64 t1]] w fun e' w' => e' = .returned (.tuple #[.string ⟨#[]⟩, .int .i64 31]) ∧ Below w.heap.size w w' := by
  have H24 := Lib.hid h24
  have H15 := Lib.hid h15
  have H15b := Lib.hid h15b
  clear h24 h15 h15b
  have hS := PS_new w f0 f1 t0 t1 26
  go_enter Tryz.func10, Tryz.ntmps10
  go_wp2_with fail
  generalize w.alloc (.cells #[.int .u64 f0, .int .u64 f1, .int .u64 t0, .int .u64 t1] 26) = w4 at hS ⊢
  rcases hq.out with rfl | ⟨rfl, hb⟩
  ·
    try simp only [List.append_eq, List.cons_append, List.nil_append]
    refine wp_region_held_drew (S := PS w f0 f1 t0 t1) (by kernel_rfl) (PS_below hS (Below.drew (Below.refl _ _))) (fun hH => ?_)
    refine wpAnyH_take (i := 0) (oi := { dst := some 7, op := Op.fieldAddr 26 (Operand.tmp 1) 1, type := 0, pos := "ref.go:273", after := #[], guard := none }) (v := ?_) rfl (by kernel_rfl) (by kernel_rfl) (by kernel_rfl) (fun _ _ _ h => h) (Or.inl ⟨by rfl, ?_⟩) hH ?_
    rotate_left
    · intro w hSw
      obtain ⟨y0, y1, y2, y3, y4⟩ := hSw
      first | (go_simp; done) | (go_simp; with_reducible rfl)
    try simp only [Act.put, List.setIfInBounds_toArray, List.set_cons_zero, List.set_cons_succ]
    refine wpAnyH_take (i := 1) (oi := { dst := some 8, op := Op.load 24 (Operand.tmp 7), type := 24, pos := "ref.go:273", after := #[{ on := 0, ground := Ground.data }], guard := none }) (v := ?_) rfl (by kernel_rfl) (by kernel_rfl) (by kernel_rfl) (fun _ _ _ h => h) (Or.inl ⟨by rfl, ?_⟩) hH ?_
    rotate_left
    · intro w hSw
      obtain ⟨y0, y1, y2, y3, y4⟩ := hSw
      first | (go_simp; done) | (go_simp; with_reducible rfl)
    try simp only [Act.put, List.setIfInBounds_toArray, List.set_cons_zero, List.set_cons_succ]
    refine wpAnyH_take (i := 2) (oi := { dst := some 9, op := Op.fieldAddr 26 (Operand.tmp 1) 0, type := 0, pos := "ref.go:273", after := #[], guard := none }) (v := ?_) rfl (by kernel_rfl) (by kernel_rfl) (by kernel_rfl) (fun _ _ _ h => h) (Or.inl ⟨by rfl, ?_⟩) hH ?_
    rotate_left
    · intro w hSw
      obtain ⟨y0, y1, y2, y3, y4⟩ := hSw
      first | (go_simp; done) | (go_simp; with_reducible rfl)
    try simp only [Act.put, List.setIfInBounds_toArray, List.set_cons_zero, List.set_cons_succ]
    refine wpAnyH_take (i := 3) (oi := { dst := some 10, op := Op.load 24 (Operand.tmp 9), type := 24, pos := "ref.go:273", after := #[{ on := 2, ground := Ground.data }], guard := none }) (v := ?_) rfl (by kernel_rfl) (by kernel_rfl) (by kernel_rfl) (fun _ _ _ h => h) (Or.inl ⟨by rfl, ?_⟩) hH ?_
    rotate_left
    · intro w hSw
      obtain ⟨y0, y1, y2, y3, y4⟩ := hSw
      first | (go_simp; done) | (go_simp; with_reducible rfl)
    try simp only [Act.put, List.setIfInBounds_toArray, List.set_cons_zero, List.set_cons_succ]
    refine wpAnyH_ready (rs := [4]) (by kernel_rfl) (by simp) ?_
    refine AllReadyH.cons (o := { dst := some 11, op := Op.call { callee := Callee.value (Operand.func 24), args := #[Operand.tmp 8, Operand.tmp 10], argTypes := #[24, 24] }, type := 4, pos := "ref.go:273", after := #[{ on := 1, ground := Ground.data }, { on := 3, ground := Ground.data }], guard := none }) rfl (fun K hK => ?_) AllReadyH.nil
    go_simp
    refine (H24.out _).mono ?_
    rintro e wn ⟨rfl, hb⟩
    go_wp2_with fail
    refine hK.out _ _ (PS_below hH hb) (fun hH2 => ?_)
    clear hK K hH hb
    have hH := hH2
    clear hH2
    try simp only [Act.put, List.setIfInBounds_toArray, List.set_cons_zero, List.set_cons_succ]
    refine wpAnyH_take (i := 5) (oi := { dst := some 12, op := Op.move (Operand.tmp 11), type := 4, pos := "ref.go:273", after := #[{ on := 4, ground := Ground.data }, { on := 4, ground := Ground.chain }], guard := none }) (v := ?_) rfl (by kernel_rfl) (by kernel_rfl) (by kernel_rfl) (fun _ _ _ h => h) (Or.inl ⟨by rfl, ?_⟩) hH ?_
    rotate_left
    · intro w hSw
      obtain ⟨y0, y1, y2, y3, y4⟩ := hSw
      first | (go_simp; done) | (go_simp; with_reducible rfl)
    try simp only [Act.put, List.setIfInBounds_toArray, List.set_cons_zero, List.set_cons_succ]
    refine wpAnyH_take (i := 6) (oi := { dst := some 13, op := Op.fieldAddr 26 (Operand.tmp 1) 0, type := 0, pos := "ref.go:273", after := #[{ on := 5, ground := Ground.guard }], guard := some (5, false) }) (v := undef) rfl (by kernel_rfl) (by kernel_rfl) (by kernel_rfl) (fun _ _ _ h => h) (Or.inr ⟨by rfl, rfl⟩) hH ?_
    try simp only [Act.put, List.setIfInBounds_toArray, List.set_cons_zero, List.set_cons_succ]
    refine wpAnyH_take (i := 7) (oi := { dst := some 14, op := Op.load 24 (Operand.tmp 13), type := 24, pos := "ref.go:273", after := #[{ on := 6, ground := Ground.data }, { on := 5, ground := Ground.guard }], guard := some (5, false) }) (v := undef) rfl (by kernel_rfl) (by kernel_rfl) (by kernel_rfl) (fun _ _ _ h => h) (Or.inr ⟨by rfl, rfl⟩) hH ?_
    try simp only [Act.put, List.setIfInBounds_toArray, List.set_cons_zero, List.set_cons_succ]
    refine wpAnyH_take (i := 8) (oi := { dst := some 15, op := Op.call { callee := Callee.value (Operand.func 15), args := #[Operand.tmp 14], argTypes := #[24] }, type := 4, pos := "ref.go:273", after := #[{ on := 7, ground := Ground.data }, { on := 5, ground := Ground.chain }, { on := 5, ground := Ground.guard }], guard := some (5, false) }) (v := undef) rfl (by kernel_rfl) (by kernel_rfl) (by kernel_rfl) (fun _ _ _ h => h) (Or.inr ⟨by rfl, rfl⟩) hH ?_
    try simp only [Act.put, List.setIfInBounds_toArray, List.set_cons_zero, List.set_cons_succ]
    refine wpAnyH_take (i := 9) (oi := { dst := some 16, op := Op.fieldAddr 26 (Operand.tmp 1) 1, type := 0, pos := "ref.go:273", after := #[{ on := 5, ground := Ground.guard }], guard := some (5, false) }) (v := undef) rfl (by kernel_rfl) (by kernel_rfl) (by kernel_rfl) (fun _ _ _ h => h) (Or.inr ⟨by rfl, rfl⟩) hH ?_
    try simp only [Act.put, List.setIfInBounds_toArray, List.set_cons_zero, List.set_cons_succ]
    refine wpAnyH_take (i := 10) (oi := { dst := some 17, op := Op.load 24 (Operand.tmp 16), type := 24, pos := "ref.go:273", after := #[{ on := 9, ground := Ground.data }, { on := 5, ground := Ground.guard }], guard := some (5, false) }) (v := undef) rfl (by kernel_rfl) (by kernel_rfl) (by kernel_rfl) (fun _ _ _ h => h) (Or.inr ⟨by rfl, rfl⟩) hH ?_
    try simp only [Act.put, List.setIfInBounds_toArray, List.set_cons_zero, List.set_cons_succ]
    refine wpAnyH_take (i := 11) (oi := { dst := some 18, op := Op.call { callee := Callee.value (Operand.func 15), args := #[Operand.tmp 17], argTypes := #[24] }, type := 4, pos := "ref.go:273", after := #[{ on := 10, ground := Ground.data }, { on := 8, ground := Ground.chain }, { on := 5, ground := Ground.guard }], guard := some (5, false) }) (v := undef) rfl (by kernel_rfl) (by kernel_rfl) (by kernel_rfl) (fun _ _ _ h => h) (Or.inr ⟨by rfl, rfl⟩) hH ?_
    try simp only [Act.put, List.setIfInBounds_toArray, List.set_cons_zero, List.set_cons_succ]
    refine wpAnyH_take (i := 12) (oi := { dst := some 19, op := Op.binOp BinOp.neq 4 (Operand.tmp 15) (Operand.tmp 18) 4, type := 4, pos := "ref.go:273", after := #[{ on := 8, ground := Ground.data }, { on := 11, ground := Ground.data }, { on := 5, ground := Ground.guard }], guard := some (5, false) }) (v := undef) rfl (by kernel_rfl) (by kernel_rfl) (by kernel_rfl) (fun _ _ _ h => h) (Or.inr ⟨by rfl, rfl⟩) hH ?_
    try simp only [Act.put, List.setIfInBounds_toArray, List.set_cons_zero, List.set_cons_succ]
    refine wpAnyH_take (i := 13) (oi := { dst := some 20, op := Op.pick (Operand.tmp 12) (Operand.const (Value.bool true)) (Operand.tmp 19), type := 4, pos := "ref.go:273", after := #[{ on := 5, ground := Ground.data }, { on := 12, ground := Ground.data }], guard := none }) (v := ?_) rfl (by kernel_rfl) (by kernel_rfl) (by kernel_rfl) (fun _ _ _ h => h) (Or.inl ⟨by rfl, ?_⟩) hH ?_
    rotate_left
    · intro w hSw
      obtain ⟨y0, y1, y2, y3, y4⟩ := hSw
      first | (go_simp; done) | (go_simp; with_reducible rfl)
    try simp only [Act.put, List.setIfInBounds_toArray, List.set_cons_zero, List.set_cons_succ]
    refine wpAnyH_done (by kernel_rfl) ?_ _
    have hBB := hH.1
    go_wp2_with fail
    exact bodyPost_ret (v := .tuple #[.string ⟨#[]⟩, .int .i64 31]) (by simp [results, Tryz.results10, go_sem]) rfl ⟨rfl, hBB⟩
  · cases b1 <;> cases b2 <;> first | cases hb | skip
    all_goals
      try simp only [List.append_eq, List.cons_append, List.nil_append]
      refine wp_region_held_drew (S := PS w f0 f1 t0 t1) (by kernel_rfl) (PS_below hS (Below.drew (Below.refl _ _))) (fun hH => ?_)
      refine wpAnyH_take (i := 0) (oi := { dst := some 7, op := Op.fieldAddr 26 (Operand.tmp 1) 1, type := 0, pos := "ref.go:273", after := #[], guard := none }) (v := ?_) rfl (by kernel_rfl) (by kernel_rfl) (by kernel_rfl) (fun _ _ _ h => h) (Or.inl ⟨by rfl, ?_⟩) hH ?_
      rotate_left
      · intro w hSw
        obtain ⟨y0, y1, y2, y3, y4⟩ := hSw
        first | (go_simp; done) | (go_simp; with_reducible rfl)
      try simp only [Act.put, List.setIfInBounds_toArray, List.set_cons_zero, List.set_cons_succ]
      refine wpAnyH_take (i := 1) (oi := { dst := some 8, op := Op.load 24 (Operand.tmp 7), type := 24, pos := "ref.go:273", after := #[{ on := 0, ground := Ground.data }], guard := none }) (v := ?_) rfl (by kernel_rfl) (by kernel_rfl) (by kernel_rfl) (fun _ _ _ h => h) (Or.inl ⟨by rfl, ?_⟩) hH ?_
      rotate_left
      · intro w hSw
        obtain ⟨y0, y1, y2, y3, y4⟩ := hSw
        first | (go_simp; done) | (go_simp; with_reducible rfl)
      try simp only [Act.put, List.setIfInBounds_toArray, List.set_cons_zero, List.set_cons_succ]
      refine wpAnyH_take (i := 2) (oi := { dst := some 9, op := Op.fieldAddr 26 (Operand.tmp 1) 0, type := 0, pos := "ref.go:273", after := #[], guard := none }) (v := ?_) rfl (by kernel_rfl) (by kernel_rfl) (by kernel_rfl) (fun _ _ _ h => h) (Or.inl ⟨by rfl, ?_⟩) hH ?_
      rotate_left
      · intro w hSw
        obtain ⟨y0, y1, y2, y3, y4⟩ := hSw
        first | (go_simp; done) | (go_simp; with_reducible rfl)
      try simp only [Act.put, List.setIfInBounds_toArray, List.set_cons_zero, List.set_cons_succ]
      refine wpAnyH_take (i := 3) (oi := { dst := some 10, op := Op.load 24 (Operand.tmp 9), type := 24, pos := "ref.go:273", after := #[{ on := 2, ground := Ground.data }], guard := none }) (v := ?_) rfl (by kernel_rfl) (by kernel_rfl) (by kernel_rfl) (fun _ _ _ h => h) (Or.inl ⟨by rfl, ?_⟩) hH ?_
      rotate_left
      · intro w hSw
        obtain ⟨y0, y1, y2, y3, y4⟩ := hSw
        first | (go_simp; done) | (go_simp; with_reducible rfl)
      try simp only [Act.put, List.setIfInBounds_toArray, List.set_cons_zero, List.set_cons_succ]
      refine wpAnyH_ready (rs := [4]) (by kernel_rfl) (by simp) ?_
      refine AllReadyH.cons (o := { dst := some 11, op := Op.call { callee := Callee.value (Operand.func 24), args := #[Operand.tmp 8, Operand.tmp 10], argTypes := #[24, 24] }, type := 4, pos := "ref.go:273", after := #[{ on := 1, ground := Ground.data }, { on := 3, ground := Ground.data }], guard := none }) rfl (fun K hK => ?_) AllReadyH.nil
      go_simp
      refine (H24.out _).mono ?_
      rintro e wn ⟨rfl, hb⟩
      go_wp2_with fail
      refine hK.out _ _ (PS_below hH hb) (fun hH2 => ?_)
      clear hK K hH hb
      have hH := hH2
      clear hH2
      try simp only [Act.put, List.setIfInBounds_toArray, List.set_cons_zero, List.set_cons_succ]
      refine wpAnyH_take (i := 5) (oi := { dst := some 12, op := Op.move (Operand.tmp 11), type := 4, pos := "ref.go:273", after := #[{ on := 4, ground := Ground.data }, { on := 4, ground := Ground.chain }], guard := none }) (v := ?_) rfl (by kernel_rfl) (by kernel_rfl) (by kernel_rfl) (fun _ _ _ h => h) (Or.inl ⟨by rfl, ?_⟩) hH ?_
      rotate_left
      · intro w hSw
        obtain ⟨y0, y1, y2, y3, y4⟩ := hSw
        first | (go_simp; done) | (go_simp; with_reducible rfl)
      try simp only [Act.put, List.setIfInBounds_toArray, List.set_cons_zero, List.set_cons_succ]
      refine wpAnyH_take (i := 6) (oi := { dst := some 13, op := Op.fieldAddr 26 (Operand.tmp 1) 0, type := 0, pos := "ref.go:273", after := #[{ on := 5, ground := Ground.guard }], guard := some (5, false) }) (v := ?_) rfl (by kernel_rfl) (by kernel_rfl) (by kernel_rfl) (fun _ _ _ h => h) (Or.inl ⟨by rfl, ?_⟩) hH ?_
      rotate_left
      · intro w hSw
        obtain ⟨y0, y1, y2, y3, y4⟩ := hSw
        first | (go_simp; done) | (go_simp; with_reducible rfl)
      try simp only [Act.put, List.setIfInBounds_toArray, List.set_cons_zero, List.set_cons_succ]
      refine wpAnyH_take (i := 7) (oi := { dst := some 14, op := Op.load 24 (Operand.tmp 13), type := 24, pos := "ref.go:273", after := #[{ on := 6, ground := Ground.data }, { on := 5, ground := Ground.guard }], guard := some (5, false) }) (v := ?_) rfl (by kernel_rfl) (by kernel_rfl) (by kernel_rfl) (fun _ _ _ h => h) (Or.inl ⟨by rfl, ?_⟩) hH ?_
      rotate_left
      · intro w hSw
        obtain ⟨y0, y1, y2, y3, y4⟩ := hSw
        first | (go_simp; done) | (go_simp; with_reducible rfl)
      try simp only [Act.put, List.setIfInBounds_toArray, List.set_cons_zero, List.set_cons_succ]
      refine wpAnyH_take (i := 9) (oi := { dst := some 16, op := Op.fieldAddr 26 (Operand.tmp 1) 1, type := 0, pos := "ref.go:273", after := #[{ on := 5, ground := Ground.guard }], guard := some (5, false) }) (v := ?_) rfl (by kernel_rfl) (by kernel_rfl) (by kernel_rfl) (fun _ _ _ h => h) (Or.inl ⟨by rfl, ?_⟩) hH ?_
      rotate_left
      · intro w hSw
        obtain ⟨y0, y1, y2, y3, y4⟩ := hSw
        first | (go_simp; done) | (go_simp; with_reducible rfl)
      try simp only [Act.put, List.setIfInBounds_toArray, List.set_cons_zero, List.set_cons_succ]
      refine wpAnyH_take (i := 10) (oi := { dst := some 17, op := Op.load 24 (Operand.tmp 16), type := 24, pos := "ref.go:273", after := #[{ on := 9, ground := Ground.data }, { on := 5, ground := Ground.guard }], guard := some (5, false) }) (v := ?_) rfl (by kernel_rfl) (by kernel_rfl) (by kernel_rfl) (fun _ _ _ h => h) (Or.inl ⟨by rfl, ?_⟩) hH ?_
      rotate_left
      · intro w hSw
        obtain ⟨y0, y1, y2, y3, y4⟩ := hSw
        first | (go_simp; done) | (go_simp; with_reducible rfl)
      try simp only [Act.put, List.setIfInBounds_toArray, List.set_cons_zero, List.set_cons_succ]
      refine wpAnyH_ready (rs := [8]) (by kernel_rfl) (by simp) ?_
      refine AllReadyH.cons (o := { dst := some 15, op := Op.call { callee := Callee.value (Operand.func 15), args := #[Operand.tmp 14], argTypes := #[24] }, type := 4, pos := "ref.go:273", after := #[{ on := 7, ground := Ground.data }, { on := 5, ground := Ground.chain }, { on := 5, ground := Ground.guard }], guard := some (5, false) }) rfl (fun K hK => ?_) AllReadyH.nil
      go_simp
      refine (H15.out _).mono ?_
      rintro e wn ⟨rfl, hb⟩
      go_wp2_with fail
      refine hK.out _ _ (PS_below hH hb) (fun hH2 => ?_)
      clear hK K hH hb
      have hH := hH2
      clear hH2
      try simp only [Act.put, List.setIfInBounds_toArray, List.set_cons_zero, List.set_cons_succ]
      refine wpAnyH_ready (rs := [11]) (by kernel_rfl) (by simp) ?_
      refine AllReadyH.cons (o := { dst := some 18, op := Op.call { callee := Callee.value (Operand.func 15), args := #[Operand.tmp 17], argTypes := #[24] }, type := 4, pos := "ref.go:273", after := #[{ on := 10, ground := Ground.data }, { on := 8, ground := Ground.chain }, { on := 5, ground := Ground.guard }], guard := some (5, false) }) rfl (fun K hK => ?_) AllReadyH.nil
      go_simp
      refine (H15b.out _).mono ?_
      rintro e wn ⟨rfl, hb⟩
      go_wp2_with fail
      refine hK.out _ _ (PS_below hH hb) (fun hH2 => ?_)
      clear hK K hH hb
      have hH := hH2
      clear hH2
      try simp only [Act.put, List.setIfInBounds_toArray, List.set_cons_zero, List.set_cons_succ]
      refine wpAnyH_take (i := 12) (oi := { dst := some 19, op := Op.binOp BinOp.neq 4 (Operand.tmp 15) (Operand.tmp 18) 4, type := 4, pos := "ref.go:273", after := #[{ on := 8, ground := Ground.data }, { on := 11, ground := Ground.data }, { on := 5, ground := Ground.guard }], guard := some (5, false) }) (v := ?_) rfl (by kernel_rfl) (by kernel_rfl) (by kernel_rfl) (fun _ _ _ h => h) (Or.inl ⟨by rfl, ?_⟩) hH ?_
      rotate_left
      · intro w hSw
        obtain ⟨y0, y1, y2, y3, y4⟩ := hSw
        first | (go_simp; done) | (go_simp; with_reducible rfl)
      try simp only [Act.put, List.setIfInBounds_toArray, List.set_cons_zero, List.set_cons_succ]
      refine wpAnyH_take (i := 13) (oi := { dst := some 20, op := Op.pick (Operand.tmp 12) (Operand.const (Value.bool true)) (Operand.tmp 19), type := 4, pos := "ref.go:273", after := #[{ on := 5, ground := Ground.data }, { on := 12, ground := Ground.data }], guard := none }) (v := ?_) rfl (by kernel_rfl) (by kernel_rfl) (by kernel_rfl) (fun _ _ _ h => h) (Or.inl ⟨by rfl, ?_⟩) hH ?_
      rotate_left
      · intro w hSw
        obtain ⟨y0, y1, y2, y3, y4⟩ := hSw
        first | (go_simp; done) | (go_simp; with_reducible rfl)
      try simp only [Act.put, List.setIfInBounds_toArray, List.set_cons_zero, List.set_cons_succ]
      refine wpAnyH_done (by kernel_rfl) ?_ _
      have hBB := hH.1
      go_wp2_with fail
      exact bodyPost_ret (v := .tuple #[.string ⟨#[]⟩, .int .i64 31]) (by simp [results, Tryz.results10, go_sem]) rfl ⟨rfl, hBB⟩
set_option maxRecDepth 100000 in
set_option maxHeartbeats 6400000 in
theorem rpr_same (f0 f1 t0 t1 : Int) (b1 : Bool) (R : ByteArray) (w : World) (e0 : f0 = t0) (e1 : f1 = t1)
    (h28 : ∀ w, Calls Tryz.prog 28 #[.agg #[.int .u64 f0, .int .u64 f1]] w fun e' w' => e' = .returned (.string R) ∧ Below w.heap.size w w')
    (h24 : ∀ w, Calls Tryz.prog 24 #[.agg #[.int .u64 t0, .int .u64 t1], .agg #[.int .u64 f0, .int .u64 f1]] w fun e' w' => e' = .returned (.bool false) ∧ Below w.heap.size w w')
    (h15 : ∀ w, Calls Tryz.prog 15 #[.agg #[.int .u64 f0, .int .u64 f1]] w fun e' w' => e' = .returned (.bool b1) ∧ Below w.heap.size w w')
    (h15b : ∀ w, Calls Tryz.prog 15 #[.agg #[.int .u64 t0, .int .u64 t1]] w fun e' w' => e' = .returned (.bool b1) ∧ Below w.heap.size w w') :
    Calls Tryz.prog 10 #[.agg #[.int .u64 f0, .int .u64 f1, .int .u64 t0, .int .u64 t1]] w fun e' w' => e' = .returned (.tuple #[.string R, .int .i64 0]) ∧ Below w.heap.size w w' := by
  have H28 := Lib.hid h28
  have HE := Lib.hid (And.intro e0 e1)
  clear h28 e0 e1
  have H24 := Lib.hid h24
  have H15 := Lib.hid h15
  have H15b := Lib.hid h15b
  clear h24 h15 h15b
  have hS := PS_new w f0 f1 t0 t1 26
  go_enter Tryz.func10, Tryz.ntmps10
  go_wp2_with fail
  generalize w.alloc (.cells #[.int .u64 f0, .int .u64 f1, .int .u64 t0, .int .u64 t1] 26) = w4 at hS ⊢
  cases b1
  all_goals
    try simp only [List.append_eq, List.cons_append, List.nil_append]
    refine wp_region_held_drew (S := PS w f0 f1 t0 t1) (by kernel_rfl) (PS_below hS (Below.drew (Below.refl _ _))) (fun hH => ?_)
    refine wpAnyH_take (i := 0) (oi := { dst := some 7, op := Op.fieldAddr 26 (Operand.tmp 1) 1, type := 0, pos := "ref.go:273", after := #[], guard := none }) (v := ?_) rfl (by kernel_rfl) (by kernel_rfl) (by kernel_rfl) (fun _ _ _ h => h) (Or.inl ⟨by rfl, ?_⟩) hH ?_
    rotate_left
    · intro w hSw
      obtain ⟨y0, y1, y2, y3, y4⟩ := hSw
      first | (go_simp; done) | (go_simp; with_reducible rfl)
    try simp only [Act.put, List.setIfInBounds_toArray, List.set_cons_zero, List.set_cons_succ]
    refine wpAnyH_take (i := 1) (oi := { dst := some 8, op := Op.load 24 (Operand.tmp 7), type := 24, pos := "ref.go:273", after := #[{ on := 0, ground := Ground.data }], guard := none }) (v := ?_) rfl (by kernel_rfl) (by kernel_rfl) (by kernel_rfl) (fun _ _ _ h => h) (Or.inl ⟨by rfl, ?_⟩) hH ?_
    rotate_left
    · intro w hSw
      obtain ⟨y0, y1, y2, y3, y4⟩ := hSw
      first | (go_simp; done) | (go_simp; with_reducible rfl)
    try simp only [Act.put, List.setIfInBounds_toArray, List.set_cons_zero, List.set_cons_succ]
    refine wpAnyH_take (i := 2) (oi := { dst := some 9, op := Op.fieldAddr 26 (Operand.tmp 1) 0, type := 0, pos := "ref.go:273", after := #[], guard := none }) (v := ?_) rfl (by kernel_rfl) (by kernel_rfl) (by kernel_rfl) (fun _ _ _ h => h) (Or.inl ⟨by rfl, ?_⟩) hH ?_
    rotate_left
    · intro w hSw
      obtain ⟨y0, y1, y2, y3, y4⟩ := hSw
      first | (go_simp; done) | (go_simp; with_reducible rfl)
    try simp only [Act.put, List.setIfInBounds_toArray, List.set_cons_zero, List.set_cons_succ]
    refine wpAnyH_take (i := 3) (oi := { dst := some 10, op := Op.load 24 (Operand.tmp 9), type := 24, pos := "ref.go:273", after := #[{ on := 2, ground := Ground.data }], guard := none }) (v := ?_) rfl (by kernel_rfl) (by kernel_rfl) (by kernel_rfl) (fun _ _ _ h => h) (Or.inl ⟨by rfl, ?_⟩) hH ?_
    rotate_left
    · intro w hSw
      obtain ⟨y0, y1, y2, y3, y4⟩ := hSw
      first | (go_simp; done) | (go_simp; with_reducible rfl)
    try simp only [Act.put, List.setIfInBounds_toArray, List.set_cons_zero, List.set_cons_succ]
    refine wpAnyH_ready (rs := [4]) (by kernel_rfl) (by simp) ?_
    refine AllReadyH.cons (o := { dst := some 11, op := Op.call { callee := Callee.value (Operand.func 24), args := #[Operand.tmp 8, Operand.tmp 10], argTypes := #[24, 24] }, type := 4, pos := "ref.go:273", after := #[{ on := 1, ground := Ground.data }, { on := 3, ground := Ground.data }], guard := none }) rfl (fun K hK => ?_) AllReadyH.nil
    go_simp
    refine (H24.out _).mono ?_
    rintro e wn ⟨rfl, hb⟩
    go_wp2_with fail
    refine hK.out _ _ (PS_below hH hb) (fun hH2 => ?_)
    clear hK K hH hb
    have hH := hH2
    clear hH2
    try simp only [Act.put, List.setIfInBounds_toArray, List.set_cons_zero, List.set_cons_succ]
    refine wpAnyH_take (i := 5) (oi := { dst := some 12, op := Op.move (Operand.tmp 11), type := 4, pos := "ref.go:273", after := #[{ on := 4, ground := Ground.data }, { on := 4, ground := Ground.chain }], guard := none }) (v := ?_) rfl (by kernel_rfl) (by kernel_rfl) (by kernel_rfl) (fun _ _ _ h => h) (Or.inl ⟨by rfl, ?_⟩) hH ?_
    rotate_left
    · intro w hSw
      obtain ⟨y0, y1, y2, y3, y4⟩ := hSw
      first | (go_simp; done) | (go_simp; with_reducible rfl)
    try simp only [Act.put, List.setIfInBounds_toArray, List.set_cons_zero, List.set_cons_succ]
    refine wpAnyH_take (i := 6) (oi := { dst := some 13, op := Op.fieldAddr 26 (Operand.tmp 1) 0, type := 0, pos := "ref.go:273", after := #[{ on := 5, ground := Ground.guard }], guard := some (5, false) }) (v := ?_) rfl (by kernel_rfl) (by kernel_rfl) (by kernel_rfl) (fun _ _ _ h => h) (Or.inl ⟨by rfl, ?_⟩) hH ?_
    rotate_left
    · intro w hSw
      obtain ⟨y0, y1, y2, y3, y4⟩ := hSw
      first | (go_simp; done) | (go_simp; with_reducible rfl)
    try simp only [Act.put, List.setIfInBounds_toArray, List.set_cons_zero, List.set_cons_succ]
    refine wpAnyH_take (i := 7) (oi := { dst := some 14, op := Op.load 24 (Operand.tmp 13), type := 24, pos := "ref.go:273", after := #[{ on := 6, ground := Ground.data }, { on := 5, ground := Ground.guard }], guard := some (5, false) }) (v := ?_) rfl (by kernel_rfl) (by kernel_rfl) (by kernel_rfl) (fun _ _ _ h => h) (Or.inl ⟨by rfl, ?_⟩) hH ?_
    rotate_left
    · intro w hSw
      obtain ⟨y0, y1, y2, y3, y4⟩ := hSw
      first | (go_simp; done) | (go_simp; with_reducible rfl)
    try simp only [Act.put, List.setIfInBounds_toArray, List.set_cons_zero, List.set_cons_succ]
    refine wpAnyH_take (i := 9) (oi := { dst := some 16, op := Op.fieldAddr 26 (Operand.tmp 1) 1, type := 0, pos := "ref.go:273", after := #[{ on := 5, ground := Ground.guard }], guard := some (5, false) }) (v := ?_) rfl (by kernel_rfl) (by kernel_rfl) (by kernel_rfl) (fun _ _ _ h => h) (Or.inl ⟨by rfl, ?_⟩) hH ?_
    rotate_left
    · intro w hSw
      obtain ⟨y0, y1, y2, y3, y4⟩ := hSw
      first | (go_simp; done) | (go_simp; with_reducible rfl)
    try simp only [Act.put, List.setIfInBounds_toArray, List.set_cons_zero, List.set_cons_succ]
    refine wpAnyH_take (i := 10) (oi := { dst := some 17, op := Op.load 24 (Operand.tmp 16), type := 24, pos := "ref.go:273", after := #[{ on := 9, ground := Ground.data }, { on := 5, ground := Ground.guard }], guard := some (5, false) }) (v := ?_) rfl (by kernel_rfl) (by kernel_rfl) (by kernel_rfl) (fun _ _ _ h => h) (Or.inl ⟨by rfl, ?_⟩) hH ?_
    rotate_left
    · intro w hSw
      obtain ⟨y0, y1, y2, y3, y4⟩ := hSw
      first | (go_simp; done) | (go_simp; with_reducible rfl)
    try simp only [Act.put, List.setIfInBounds_toArray, List.set_cons_zero, List.set_cons_succ]
    refine wpAnyH_ready (rs := [8]) (by kernel_rfl) (by simp) ?_
    refine AllReadyH.cons (o := { dst := some 15, op := Op.call { callee := Callee.value (Operand.func 15), args := #[Operand.tmp 14], argTypes := #[24] }, type := 4, pos := "ref.go:273", after := #[{ on := 7, ground := Ground.data }, { on := 5, ground := Ground.chain }, { on := 5, ground := Ground.guard }], guard := some (5, false) }) rfl (fun K hK => ?_) AllReadyH.nil
    go_simp
    refine (H15.out _).mono ?_
    rintro e wn ⟨rfl, hb⟩
    go_wp2_with fail
    refine hK.out _ _ (PS_below hH hb) (fun hH2 => ?_)
    clear hK K hH hb
    have hH := hH2
    clear hH2
    try simp only [Act.put, List.setIfInBounds_toArray, List.set_cons_zero, List.set_cons_succ]
    refine wpAnyH_ready (rs := [11]) (by kernel_rfl) (by simp) ?_
    refine AllReadyH.cons (o := { dst := some 18, op := Op.call { callee := Callee.value (Operand.func 15), args := #[Operand.tmp 17], argTypes := #[24] }, type := 4, pos := "ref.go:273", after := #[{ on := 10, ground := Ground.data }, { on := 8, ground := Ground.chain }, { on := 5, ground := Ground.guard }], guard := some (5, false) }) rfl (fun K hK => ?_) AllReadyH.nil
    go_simp
    refine (H15b.out _).mono ?_
    rintro e wn ⟨rfl, hb⟩
    go_wp2_with fail
    refine hK.out _ _ (PS_below hH hb) (fun hH2 => ?_)
    clear hK K hH hb
    have hH := hH2
    clear hH2
    try simp only [Act.put, List.setIfInBounds_toArray, List.set_cons_zero, List.set_cons_succ]
    refine wpAnyH_take (i := 12) (oi := { dst := some 19, op := Op.binOp BinOp.neq 4 (Operand.tmp 15) (Operand.tmp 18) 4, type := 4, pos := "ref.go:273", after := #[{ on := 8, ground := Ground.data }, { on := 11, ground := Ground.data }, { on := 5, ground := Ground.guard }], guard := some (5, false) }) (v := ?_) rfl (by kernel_rfl) (by kernel_rfl) (by kernel_rfl) (fun _ _ _ h => h) (Or.inl ⟨by rfl, ?_⟩) hH ?_
    rotate_left
    · intro w hSw
      obtain ⟨y0, y1, y2, y3, y4⟩ := hSw
      first | (go_simp; done) | (go_simp; with_reducible rfl)
    try simp only [Act.put, List.setIfInBounds_toArray, List.set_cons_zero, List.set_cons_succ]
    refine wpAnyH_take (i := 13) (oi := { dst := some 20, op := Op.pick (Operand.tmp 12) (Operand.const (Value.bool true)) (Operand.tmp 19), type := 4, pos := "ref.go:273", after := #[{ on := 5, ground := Ground.data }, { on := 12, ground := Ground.data }], guard := none }) (v := ?_) rfl (by kernel_rfl) (by kernel_rfl) (by kernel_rfl) (fun _ _ _ h => h) (Or.inl ⟨by rfl, ?_⟩) hH ?_
    rotate_left
    · intro w hSw
      obtain ⟨y0, y1, y2, y3, y4⟩ := hSw
      first | (go_simp; done) | (go_simp; with_reducible rfl)
    try simp only [Act.put, List.setIfInBounds_toArray, List.set_cons_zero, List.set_cons_succ]
    refine wpAnyH_done (by kernel_rfl) ?_ _
    obtain ⟨e0, e1⟩ := HE.out
    subst e0 e1
    obtain ⟨hBB, m0, m1, m2, m3⟩ := hH
    go_wp2_with fail
    refine (H28.out _).mono ?_
    rintro e' wz ⟨rfl, hbz⟩
    have hBz := bnext hBB hbz
    go_wp2_with fail
    exact bodyPost_ret (v := .tuple #[.string R, .int .i64 0]) (by simp [results, Tryz.results10, go_sem]) rfl ⟨rfl, hBz⟩
set_option maxRecDepth 100000 in
set_option maxHeartbeats 6400000 in
theorem rpr_diff (f0 f1 t0 t1 : Int) (b1 : Bool) (p : Nat → Int × Int × Int × Int × Int) (m : Nat) (T T2 U R : ByteArray) (w : World) (he : ((f0 == t0) && (f1 == t1)) = false) (hsz : T.size ≤ 64 ∧ T2.size ≤ 64 ∧ U.size ≤ 64)
    (h6 : ∀ (n : Nat) w, n ≤ 128 → Calls Tryz.prog 6 #[.agg #[.int .u64 f0, .int .u64 f1], .int .i64 n] w fun e' w' => e' = .returned (.tuple #[.agg #[.int .u64 (p n).1, .int .u64 (p n).2.1, .int .u64 (p n).2.2.1, .int .u64 (p n).2.2.2.1], .int .i64 (p n).2.2.2.2]) ∧ Below w.heap.size w w')
    (hno : ∀ n, n < m → ¬ (((p n).2.2.2.2 == 0) = true ∧ (((p n).1 == f0 && ((p n).2.1 == f1)) && ((p n).2.2.1 == t0 && ((p n).2.2.2.1 == t1))) = true))
    (hyes : (m ≤ 128 ∧ R = T ++ ⟨#[47]⟩ ++ U ∧ ((p m).2.2.2.2 == 0) = true ∧ (((p m).1 == f0 && ((p m).2.1 == f1)) && ((p m).2.2.1 == t0 && ((p m).2.2.2.1 == t1))) = true) ∨ m = 129 ∧ R = T ++ ⟨#[45]⟩ ++ T2)
    (h29 : ∀ w, m ≤ 128 → Calls Tryz.prog 29 #[.int .i64 m, .int .i64 10] w fun e' w' => e' = .returned (.string U) ∧ Below w.heap.size w w')
    (h28 : ∀ w, Calls Tryz.prog 28 #[.agg #[.int .u64 f0, .int .u64 f1]] w fun e' w' => e' = .returned (.string T) ∧ Below w.heap.size w w')
    (h28b : ∀ w, Calls Tryz.prog 28 #[.agg #[.int .u64 t0, .int .u64 t1]] w fun e' w' => e' = .returned (.string T2) ∧ Below w.heap.size w w')
    (h24 : ∀ w, Calls Tryz.prog 24 #[.agg #[.int .u64 t0, .int .u64 t1], .agg #[.int .u64 f0, .int .u64 f1]] w fun e' w' => e' = .returned (.bool false) ∧ Below w.heap.size w w')
    (h15 : ∀ w, Calls Tryz.prog 15 #[.agg #[.int .u64 f0, .int .u64 f1]] w fun e' w' => e' = .returned (.bool b1) ∧ Below w.heap.size w w')
    (h15b : ∀ w, Calls Tryz.prog 15 #[.agg #[.int .u64 t0, .int .u64 t1]] w fun e' w' => e' = .returned (.bool b1) ∧ Below w.heap.size w w') :
    Calls Tryz.prog 10 #[.agg #[.int .u64 f0, .int .u64 f1, .int .u64 t0, .int .u64 t1]] w fun e' w' => e' = .returned (.tuple #[.string R, .int .i64 0]) ∧ Below w.heap.size w w' := by
  have H6 := Lib.hid h6
  have HNO := Lib.hid hno
  have HYES := Lib.hid hyes
  have H29 := Lib.hid h29
  have H28 := Lib.hid h28
  have H28B := Lib.hid h28b
  clear h6 hno hyes h29 h28 h28b
  have H24 := Lib.hid h24
  have H15 := Lib.hid h15
  have H15b := Lib.hid h15b
  clear h24 h15 h15b
  have hS := PS_new w f0 f1 t0 t1 26
  go_enter Tryz.func10, Tryz.ntmps10
  go_wp2_with fail
  generalize w.alloc (.cells #[.int .u64 f0, .int .u64 f1, .int .u64 t0, .int .u64 t1] 26) = w4 at hS ⊢
  have hs1 : ¬ 9223372036854775807 < T.size + 1 := by omega
  have hs2 : ¬ 9223372036854775807 < T.size + 1 + U.size := by omega
  have hs3 : ¬ 9223372036854775807 < T.size + 1 + T2.size := by omega
  clear hsz
  cases b1
  all_goals
    try simp only [List.append_eq, List.cons_append, List.nil_append]
    refine wp_region_held_drew (S := PS w f0 f1 t0 t1) (by kernel_rfl) (PS_below hS (Below.drew (Below.refl _ _))) (fun hH => ?_)
    refine wpAnyH_take (i := 0) (oi := { dst := some 7, op := Op.fieldAddr 26 (Operand.tmp 1) 1, type := 0, pos := "ref.go:273", after := #[], guard := none }) (v := ?_) rfl (by kernel_rfl) (by kernel_rfl) (by kernel_rfl) (fun _ _ _ h => h) (Or.inl ⟨by rfl, ?_⟩) hH ?_
    rotate_left
    · intro w hSw
      obtain ⟨y0, y1, y2, y3, y4⟩ := hSw
      first | (go_simp; done) | (go_simp; with_reducible rfl)
    try simp only [Act.put, List.setIfInBounds_toArray, List.set_cons_zero, List.set_cons_succ]
    refine wpAnyH_take (i := 1) (oi := { dst := some 8, op := Op.load 24 (Operand.tmp 7), type := 24, pos := "ref.go:273", after := #[{ on := 0, ground := Ground.data }], guard := none }) (v := ?_) rfl (by kernel_rfl) (by kernel_rfl) (by kernel_rfl) (fun _ _ _ h => h) (Or.inl ⟨by rfl, ?_⟩) hH ?_
    rotate_left
    · intro w hSw
      obtain ⟨y0, y1, y2, y3, y4⟩ := hSw
      first | (go_simp; done) | (go_simp; with_reducible rfl)
    try simp only [Act.put, List.setIfInBounds_toArray, List.set_cons_zero, List.set_cons_succ]
    refine wpAnyH_take (i := 2) (oi := { dst := some 9, op := Op.fieldAddr 26 (Operand.tmp 1) 0, type := 0, pos := "ref.go:273", after := #[], guard := none }) (v := ?_) rfl (by kernel_rfl) (by kernel_rfl) (by kernel_rfl) (fun _ _ _ h => h) (Or.inl ⟨by rfl, ?_⟩) hH ?_
    rotate_left
    · intro w hSw
      obtain ⟨y0, y1, y2, y3, y4⟩ := hSw
      first | (go_simp; done) | (go_simp; with_reducible rfl)
    try simp only [Act.put, List.setIfInBounds_toArray, List.set_cons_zero, List.set_cons_succ]
    refine wpAnyH_take (i := 3) (oi := { dst := some 10, op := Op.load 24 (Operand.tmp 9), type := 24, pos := "ref.go:273", after := #[{ on := 2, ground := Ground.data }], guard := none }) (v := ?_) rfl (by kernel_rfl) (by kernel_rfl) (by kernel_rfl) (fun _ _ _ h => h) (Or.inl ⟨by rfl, ?_⟩) hH ?_
    rotate_left
    · intro w hSw
      obtain ⟨y0, y1, y2, y3, y4⟩ := hSw
      first | (go_simp; done) | (go_simp; with_reducible rfl)
    try simp only [Act.put, List.setIfInBounds_toArray, List.set_cons_zero, List.set_cons_succ]
    refine wpAnyH_ready (rs := [4]) (by kernel_rfl) (by simp) ?_
    refine AllReadyH.cons (o := { dst := some 11, op := Op.call { callee := Callee.value (Operand.func 24), args := #[Operand.tmp 8, Operand.tmp 10], argTypes := #[24, 24] }, type := 4, pos := "ref.go:273", after := #[{ on := 1, ground := Ground.data }, { on := 3, ground := Ground.data }], guard := none }) rfl (fun K hK => ?_) AllReadyH.nil
    go_simp
    refine (H24.out _).mono ?_
    rintro e wn ⟨rfl, hb⟩
    go_wp2_with fail
    refine hK.out _ _ (PS_below hH hb) (fun hH2 => ?_)
    clear hK K hH hb
    have hH := hH2
    clear hH2
    try simp only [Act.put, List.setIfInBounds_toArray, List.set_cons_zero, List.set_cons_succ]
    refine wpAnyH_take (i := 5) (oi := { dst := some 12, op := Op.move (Operand.tmp 11), type := 4, pos := "ref.go:273", after := #[{ on := 4, ground := Ground.data }, { on := 4, ground := Ground.chain }], guard := none }) (v := ?_) rfl (by kernel_rfl) (by kernel_rfl) (by kernel_rfl) (fun _ _ _ h => h) (Or.inl ⟨by rfl, ?_⟩) hH ?_
    rotate_left
    · intro w hSw
      obtain ⟨y0, y1, y2, y3, y4⟩ := hSw
      first | (go_simp; done) | (go_simp; with_reducible rfl)
    try simp only [Act.put, List.setIfInBounds_toArray, List.set_cons_zero, List.set_cons_succ]
    refine wpAnyH_take (i := 6) (oi := { dst := some 13, op := Op.fieldAddr 26 (Operand.tmp 1) 0, type := 0, pos := "ref.go:273", after := #[{ on := 5, ground := Ground.guard }], guard := some (5, false) }) (v := ?_) rfl (by kernel_rfl) (by kernel_rfl) (by kernel_rfl) (fun _ _ _ h => h) (Or.inl ⟨by rfl, ?_⟩) hH ?_
    rotate_left
    · intro w hSw
      obtain ⟨y0, y1, y2, y3, y4⟩ := hSw
      first | (go_simp; done) | (go_simp; with_reducible rfl)
    try simp only [Act.put, List.setIfInBounds_toArray, List.set_cons_zero, List.set_cons_succ]
    refine wpAnyH_take (i := 7) (oi := { dst := some 14, op := Op.load 24 (Operand.tmp 13), type := 24, pos := "ref.go:273", after := #[{ on := 6, ground := Ground.data }, { on := 5, ground := Ground.guard }], guard := some (5, false) }) (v := ?_) rfl (by kernel_rfl) (by kernel_rfl) (by kernel_rfl) (fun _ _ _ h => h) (Or.inl ⟨by rfl, ?_⟩) hH ?_
    rotate_left
    · intro w hSw
      obtain ⟨y0, y1, y2, y3, y4⟩ := hSw
      first | (go_simp; done) | (go_simp; with_reducible rfl)
    try simp only [Act.put, List.setIfInBounds_toArray, List.set_cons_zero, List.set_cons_succ]
    refine wpAnyH_take (i := 9) (oi := { dst := some 16, op := Op.fieldAddr 26 (Operand.tmp 1) 1, type := 0, pos := "ref.go:273", after := #[{ on := 5, ground := Ground.guard }], guard := some (5, false) }) (v := ?_) rfl (by kernel_rfl) (by kernel_rfl) (by kernel_rfl) (fun _ _ _ h => h) (Or.inl ⟨by rfl, ?_⟩) hH ?_
    rotate_left
    · intro w hSw
      obtain ⟨y0, y1, y2, y3, y4⟩ := hSw
      first | (go_simp; done) | (go_simp; with_reducible rfl)
    try simp only [Act.put, List.setIfInBounds_toArray, List.set_cons_zero, List.set_cons_succ]
    refine wpAnyH_take (i := 10) (oi := { dst := some 17, op := Op.load 24 (Operand.tmp 16), type := 24, pos := "ref.go:273", after := #[{ on := 9, ground := Ground.data }, { on := 5, ground := Ground.guard }], guard := some (5, false) }) (v := ?_) rfl (by kernel_rfl) (by kernel_rfl) (by kernel_rfl) (fun _ _ _ h => h) (Or.inl ⟨by rfl, ?_⟩) hH ?_
    rotate_left
    · intro w hSw
      obtain ⟨y0, y1, y2, y3, y4⟩ := hSw
      first | (go_simp; done) | (go_simp; with_reducible rfl)
    try simp only [Act.put, List.setIfInBounds_toArray, List.set_cons_zero, List.set_cons_succ]
    refine wpAnyH_ready (rs := [8]) (by kernel_rfl) (by simp) ?_
    refine AllReadyH.cons (o := { dst := some 15, op := Op.call { callee := Callee.value (Operand.func 15), args := #[Operand.tmp 14], argTypes := #[24] }, type := 4, pos := "ref.go:273", after := #[{ on := 7, ground := Ground.data }, { on := 5, ground := Ground.chain }, { on := 5, ground := Ground.guard }], guard := some (5, false) }) rfl (fun K hK => ?_) AllReadyH.nil
    go_simp
    refine (H15.out _).mono ?_
    rintro e wn ⟨rfl, hb⟩
    go_wp2_with fail
    refine hK.out _ _ (PS_below hH hb) (fun hH2 => ?_)
    clear hK K hH hb
    have hH := hH2
    clear hH2
    try simp only [Act.put, List.setIfInBounds_toArray, List.set_cons_zero, List.set_cons_succ]
    refine wpAnyH_ready (rs := [11]) (by kernel_rfl) (by simp) ?_
    refine AllReadyH.cons (o := { dst := some 18, op := Op.call { callee := Callee.value (Operand.func 15), args := #[Operand.tmp 17], argTypes := #[24] }, type := 4, pos := "ref.go:273", after := #[{ on := 10, ground := Ground.data }, { on := 8, ground := Ground.chain }, { on := 5, ground := Ground.guard }], guard := some (5, false) }) rfl (fun K hK => ?_) AllReadyH.nil
    go_simp
    refine (H15b.out _).mono ?_
    rintro e wn ⟨rfl, hb⟩
    go_wp2_with fail
    refine hK.out _ _ (PS_below hH hb) (fun hH2 => ?_)
    clear hK K hH hb
    have hH := hH2
    clear hH2
    try simp only [Act.put, List.setIfInBounds_toArray, List.set_cons_zero, List.set_cons_succ]
    refine wpAnyH_take (i := 12) (oi := { dst := some 19, op := Op.binOp BinOp.neq 4 (Operand.tmp 15) (Operand.tmp 18) 4, type := 4, pos := "ref.go:273", after := #[{ on := 8, ground := Ground.data }, { on := 11, ground := Ground.data }, { on := 5, ground := Ground.guard }], guard := some (5, false) }) (v := ?_) rfl (by kernel_rfl) (by kernel_rfl) (by kernel_rfl) (fun _ _ _ h => h) (Or.inl ⟨by rfl, ?_⟩) hH ?_
    rotate_left
    · intro w hSw
      obtain ⟨y0, y1, y2, y3, y4⟩ := hSw
      first | (go_simp; done) | (go_simp; with_reducible rfl)
    try simp only [Act.put, List.setIfInBounds_toArray, List.set_cons_zero, List.set_cons_succ]
    refine wpAnyH_take (i := 13) (oi := { dst := some 20, op := Op.pick (Operand.tmp 12) (Operand.const (Value.bool true)) (Operand.tmp 19), type := 4, pos := "ref.go:273", after := #[{ on := 5, ground := Ground.data }, { on := 12, ground := Ground.data }], guard := none }) (v := ?_) rfl (by kernel_rfl) (by kernel_rfl) (by kernel_rfl) (fun _ _ _ h => h) (Or.inl ⟨by rfl, ?_⟩) hH ?_
    rotate_left
    · intro w hSw
      obtain ⟨y0, y1, y2, y3, y4⟩ := hSw
      first | (go_simp; done) | (go_simp; with_reducible rfl)
    try simp only [Act.put, List.setIfInBounds_toArray, List.set_cons_zero, List.set_cons_succ]
    refine wpAnyH_done (by kernel_rfl) ?_ _
    have hQ := hH
    obtain ⟨hBB, m0, m1, m2, m3⟩ := hH
    go_wp2_with fail
    have hm9 : m ≤ 129 := by rcases HYES.out with h | h <;> omega
    clear hBB m0 m1 m2 m3 hS
    go_loopw [4] (fun i wr => ∃ k : Nat, k ≤ m ∧ i = .int .i64 k ∧ PS w f0 f1 t0 t1 wr) (fun i _ => 129 - (intOf i).toNat)
    case atStart => exact ⟨0, by omega, rfl, hQ⟩
    case round =>
      obtain ⟨k, hkm, rfl, hR⟩ := hrel
      obtain ⟨hB, m0, m1, m2, m3⟩ := hR
      by_cases hk : k ≤ 128
      · obtain ⟨q, hq⟩ : ∃ q, p k = q := ⟨_, rfl⟩
        obtain ⟨q0, q1, q2, q3, qe⟩ := q
        have h6 := fun w => H6.out k w hk
        rw [hq] at h6
        simp only at h6
        have H6k := Lib.hid h6
        have hk2 : (k : Int) ≤ 128 := by omega
        clear h6
        go_wp2_with fail
        refine (H6k.out _).mono ?_
        rintro e' wx ⟨rfl, hbx⟩
        have hby := ba hbx (.cells #[.int .u64 q0, .int .u64 q1, .int .u64 q2, .int .u64 q3] 26)
        have hBy := bnext hB hby
        have n0 := pw_cell_below hby m0
        have n1 := pw_cell_below hby m1
        have n2 := pw_cell_below hby m2
        have n3 := pw_cell_below hby m3
        have hltx : w.heap.size < wx.heap.size := Nat.lt_of_lt_of_le (lt_of_cell m0) hbx.size
        clear hB hbx hby m0 m1 m2 m3
        by_cases c1 : (qe == 0) = true
        · by_cases c2 : ((q0 == f0 && (q1 == f1)) && (q2 == t0 && (q3 == t1))) = true
          · have hkeq : k = m := by
              rcases Nat.lt_or_ge k m with h | h
              · exact absurd ⟨by rw [hq]; exact c1, by rw [hq]; exact c2⟩ (HNO.out k h)
              · omega
            subst hkeq
            obtain ⟨_, rfl, _⟩ | ⟨h, _⟩ := HYES.out
            rotate_left
            · omega
            clear hkm hm9 hk2 hq
            go_wp2_with fail
            refine (H28.out _).mono ?_
            rintro e' wz ⟨rfl, hbz⟩
            have hBz := bnext hBy hbz
            clear hbz
            go_wp2_with fail
            refine (H29.out _ hk).mono ?_
            rintro e' wv ⟨rfl, hbv⟩
            have hBv := bnext hBz hbv
            go_wp2_with fail
            exact bodyPost_ret (v := .tuple #[.string _, .int .i64 0]) (by simp [results, Tryz.results10, go_sem]) rfl ⟨rfl, hBv⟩
          · have c2 : ((q0 == f0 && (q1 == f1)) && (q2 == t0 && (q3 == t1))) = false := by simpa using c2
            have hkm2 : k < m := by
              rcases Nat.lt_or_ge k m with h | h
              · exact h
              · rcases HYES.out with ⟨_, _, _, h2⟩ | ⟨h1, _⟩
                · have e : k = m := by omega
                  rw [← e, hq] at h2
                  exact absurd h2 (by rw [c2]; decide)
                · omega
            clear hkm hm9 hk2 hq
            go_wp2_with fail
            go_roundw
            case rel => exact ⟨k + 1, hkm2, by go_num, hBy, n0, n1, n2, n3⟩
            case measure => simp [intOf]; omega
        · have c1 : (qe == 0) = false := by simpa using c1
          have hkm2 : k < m := by
            rcases Nat.lt_or_ge k m with h | h
            · exact h
            · rcases HYES.out with ⟨_, _, h2, _⟩ | ⟨h1, _⟩
              · have e : k = m := by omega
                rw [← e, hq] at h2
                exact absurd h2 (by rw [c1]; decide)
              · omega
          clear hkm hm9 hk2 hq
          go_wp2_with fail
          go_roundw
          case rel => exact ⟨k + 1, hkm2, by go_num, hBy, n0, n1, n2, n3⟩
          case measure => simp [intOf]; omega
      · obtain rfl : k = 129 := by omega
        obtain ⟨h, _⟩ | ⟨_, rfl⟩ := HYES.out
        · omega
        go_wp2_with fail
        try simp only [List.append_eq, List.cons_append, List.nil_append]
        refine wp_region_held_drew (S := PS w f0 f1 t0 t1) (by kernel_rfl) (PS_below ⟨hB, m0, m1, m2, m3⟩ (Below.drew (Below.refl _ _))) (fun hH => ?_)
        refine wpAnyH_take (i := 0) (oi := { dst := some 54, op := Op.fieldAddr 26 (Operand.tmp 1) 0, type := 0, pos := "ref.go:285", after := #[], guard := none }) (v := ?_) rfl (by kernel_rfl) (by kernel_rfl) (by kernel_rfl) (fun _ _ _ h => h) (Or.inl ⟨by rfl, ?_⟩) hH ?_
        rotate_left
        · intro w hSw
          obtain ⟨y0, y1, y2, y3, y4⟩ := hSw
          first | (go_simp; done) | (go_simp; with_reducible rfl)
        try simp only [Act.put, List.setIfInBounds_toArray, List.set_cons_zero, List.set_cons_succ]
        refine wpAnyH_take (i := 1) (oi := { dst := some 55, op := Op.load 24 (Operand.tmp 54), type := 24, pos := "ref.go:285", after := #[{ on := 0, ground := Ground.data }], guard := none }) (v := ?_) rfl (by kernel_rfl) (by kernel_rfl) (by kernel_rfl) (fun _ _ _ h => h) (Or.inl ⟨by rfl, ?_⟩) hH ?_
        rotate_left
        · intro w hSw
          obtain ⟨y0, y1, y2, y3, y4⟩ := hSw
          first | (go_simp; done) | (go_simp; with_reducible rfl)
        try simp only [Act.put, List.setIfInBounds_toArray, List.set_cons_zero, List.set_cons_succ]
        refine wpAnyH_take (i := 4) (oi := { dst := some 58, op := Op.fieldAddr 26 (Operand.tmp 1) 1, type := 0, pos := "ref.go:285", after := #[], guard := none }) (v := ?_) rfl (by kernel_rfl) (by kernel_rfl) (by kernel_rfl) (fun _ _ _ h => h) (Or.inl ⟨by rfl, ?_⟩) hH ?_
        rotate_left
        · intro w hSw
          obtain ⟨y0, y1, y2, y3, y4⟩ := hSw
          first | (go_simp; done) | (go_simp; with_reducible rfl)
        try simp only [Act.put, List.setIfInBounds_toArray, List.set_cons_zero, List.set_cons_succ]
        refine wpAnyH_take (i := 5) (oi := { dst := some 59, op := Op.load 24 (Operand.tmp 58), type := 24, pos := "ref.go:285", after := #[{ on := 4, ground := Ground.data }], guard := none }) (v := ?_) rfl (by kernel_rfl) (by kernel_rfl) (by kernel_rfl) (fun _ _ _ h => h) (Or.inl ⟨by rfl, ?_⟩) hH ?_
        rotate_left
        · intro w hSw
          obtain ⟨y0, y1, y2, y3, y4⟩ := hSw
          first | (go_simp; done) | (go_simp; with_reducible rfl)
        try simp only [Act.put, List.setIfInBounds_toArray, List.set_cons_zero, List.set_cons_succ]
        refine wpAnyH_ready (rs := [2]) (by kernel_rfl) (by simp) ?_
        refine AllReadyH.cons (o := { dst := some 56, op := Op.call { callee := Callee.value (Operand.func 28), args := #[Operand.tmp 55], argTypes := #[24] }, type := 9, pos := "ref.go:285", after := #[{ on := 1, ground := Ground.data }], guard := none }) rfl (fun K hK => ?_) AllReadyH.nil
        go_simp
        refine (H28.out _).mono ?_
        rintro e wn ⟨rfl, hb⟩
        go_wp2_with fail
        refine hK.out _ _ (PS_below hH hb) (fun hH2 => ?_)
        clear hK K hH hb
        have hH := hH2
        clear hH2
        try simp only [Act.put, List.setIfInBounds_toArray, List.set_cons_zero, List.set_cons_succ]
        refine wpAnyH_take (i := 3) (oi := { dst := some 57, op := Op.binOp BinOp.add 9 (Operand.tmp 56) (Operand.const (Value.string { data := #[45] })) 9, type := 9, pos := "ref.go:285", after := #[{ on := 2, ground := Ground.data }], guard := none }) (v := ?_) rfl (by kernel_rfl) (by kernel_rfl) (by kernel_rfl) (fun _ _ _ h => h) (Or.inl ⟨by rfl, ?_⟩) hH ?_
        rotate_left
        · intro w hSw
          obtain ⟨y0, y1, y2, y3, y4⟩ := hSw
          first | (go_simp; done) | (go_simp; with_reducible rfl)
        try simp only [Act.put, List.setIfInBounds_toArray, List.set_cons_zero, List.set_cons_succ]
        refine wpAnyH_ready (rs := [6]) (by kernel_rfl) (by simp) ?_
        refine AllReadyH.cons (o := { dst := some 60, op := Op.call { callee := Callee.value (Operand.func 28), args := #[Operand.tmp 59], argTypes := #[24] }, type := 9, pos := "ref.go:285", after := #[{ on := 5, ground := Ground.data }, { on := 2, ground := Ground.chain }], guard := none }) rfl (fun K hK => ?_) AllReadyH.nil
        go_simp
        refine (H28B.out _).mono ?_
        rintro e wn ⟨rfl, hb⟩
        go_wp2_with fail
        refine hK.out _ _ (PS_below hH hb) (fun hH2 => ?_)
        clear hK K hH hb
        have hH := hH2
        clear hH2
        try simp only [Act.put, List.setIfInBounds_toArray, List.set_cons_zero, List.set_cons_succ]
        refine wpAnyH_take (i := 7) (oi := { dst := some 61, op := Op.binOp BinOp.add 9 (Operand.tmp 57) (Operand.tmp 60) 9, type := 9, pos := "ref.go:285", after := #[{ on := 3, ground := Ground.data }, { on := 6, ground := Ground.data }], guard := none }) (v := ?_) rfl (by kernel_rfl) (by kernel_rfl) (by kernel_rfl) (fun _ _ _ h => h) (Or.inl ⟨by rfl, ?_⟩) hH ?_
        rotate_left
        · intro w hSw
          obtain ⟨y0, y1, y2, y3, y4⟩ := hSw
          first | (go_simp; done) | (go_simp; with_reducible rfl)
        try simp only [Act.put, List.setIfInBounds_toArray, List.set_cons_zero, List.set_cons_succ]
        refine wpAnyH_take (i := 8) (oi := { dst := some 2, op := Op.assign (Operand.tmp 61), type := 9, pos := "ref.go:285", after := #[{ on := 7, ground := Ground.data }, { on := 6, ground := Ground.chain }, { on := 0, ground := Ground.phase }, { on := 1, ground := Ground.phase }, { on := 2, ground := Ground.phase }, { on := 3, ground := Ground.phase }, { on := 4, ground := Ground.phase }, { on := 5, ground := Ground.phase }, { on := 6, ground := Ground.phase }, { on := 7, ground := Ground.phase }], guard := none }) (v := ?_) rfl (by kernel_rfl) (by kernel_rfl) (by kernel_rfl) (fun _ _ _ h => h) (Or.inl ⟨by rfl, ?_⟩) hH ?_
        rotate_left
        · intro w hSw
          obtain ⟨y0, y1, y2, y3, y4⟩ := hSw
          first | (go_simp; done) | (go_simp; with_reducible rfl)
        try simp only [Act.put, List.setIfInBounds_toArray, List.set_cons_zero, List.set_cons_succ]
        refine wpAnyH_take (i := 9) (oi := { dst := some 3, op := Op.assign (Operand.const (Value.int IntKind.i64 0)), type := 27, pos := "ref.go:285", after := #[{ on := 8, ground := Ground.chain }, { on := 0, ground := Ground.phase }, { on := 1, ground := Ground.phase }, { on := 2, ground := Ground.phase }, { on := 3, ground := Ground.phase }, { on := 4, ground := Ground.phase }, { on := 5, ground := Ground.phase }, { on := 6, ground := Ground.phase }, { on := 7, ground := Ground.phase }, { on := 8, ground := Ground.phase }], guard := none }) (v := ?_) rfl (by kernel_rfl) (by kernel_rfl) (by kernel_rfl) (fun _ _ _ h => h) (Or.inl ⟨by rfl, ?_⟩) hH ?_
        rotate_left
        · intro w hSw
          obtain ⟨y0, y1, y2, y3, y4⟩ := hSw
          first | (go_simp; done) | (go_simp; with_reducible rfl)
        try simp only [Act.put, List.setIfInBounds_toArray, List.set_cons_zero, List.set_cons_succ]
        refine wpAnyH_done (by kernel_rfl) ?_ _
        have hBB := hH.1
        go_wp2_with fail
        exact bodyPost_ret (v := .tuple #[.string _, .int .i64 0]) (by simp [results, Tryz.results10, go_sem]) rfl ⟨rfl, hBB⟩
end Go.Proofs.YtgbkeciimddpnaaGreatDoor.Ranges
