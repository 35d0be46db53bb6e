/-
The walk of lang.checkRules at the law's one rule: the limit that is there is named.
Conditions: the cells as the law lays them.
-/
import Derived.Test.YteocdfahhndfoaaDoorRulesBase
namespace Go.Proofs.YteocdfahhndfoaaDoor.Print
open Go.RowKit Go.Proofs.YteocdfahhndfoaaDoorW.PrintWords Go.Proofs.YteocdfahhndfoaaDoor.Plain
attribute [local go_sem] neS_bne neS_beq neS_isEmpty em_isEmpty
set_option maxHeartbeats 40000000 in
set_option maxRecDepth 8192 in
theorem rules_O (v4 v5 v7 : Value) (A : Option Addr) (c0 c1 c2 c c6 : Nat) (ls : List S32) (rb : Nat) (hc : UInt8) (hl : List UInt8) (w : World) (HN : Aside0 (∀ W : World, Below w.heap.size w W → Calls Tryd.prog 40 #[.slice A ls.length c, .func (.func 24) #[] #[], .string (neS hc hl)] W fun e w' => e = .returned (.int .i64 0) ∧ Below W.heap.size W w'))
    (a0 : w.cell? ⟨rb, 0, none⟩ = some (.string ⟨#[97, 110, 121]⟩))
    (a1 : w.cell? ⟨rb, 1, none⟩ = some (.string ⟨#[97, 110, 121]⟩))
    (a2 : w.cell? ⟨rb, 2, none⟩ = some (.string ⟨#[97, 110, 121]⟩))
    (a3 : w.cell? ⟨rb, 3, none⟩ = some (.string ⟨#[97, 110, 121]⟩))
    (a4 : w.cell? ⟨rb, 4, none⟩ = some (.string ⟨#[97, 110, 121]⟩))
    (a5 : w.cell? ⟨rb, 5, none⟩ = some (.int .i64 1))
    (a6 : w.cell? ⟨rb, 6, none⟩ = some (.string (neS hc hl)))
    (a7 : w.cell? ⟨rb, 7, none⟩ = some (.bool false)) :
    Calls Tryd.prog 12 #[.agg #[.slice none 0 c0, .slice none 0 c1, .slice none 0 c2, .slice A ls.length c, v4, v5, .slice (some ⟨rb, 0, none⟩) 1 c6, v7]] w fun e w' => e = .returned (.int .i64 0) ∧ Below w.heap.size w w' := by
  go_enter Tryd.func12, Tryd.ntmps12
  go_wp2_with fail
  have HB0 : Below w.heap.size w (w.alloc (Obj.cells #[.slice none 0 c0, .slice none 0 c1, .slice none 0 c2, .slice A ls.length c, v4, v5, .slice (some ⟨rb, 0, none⟩) 1 c6, v7] 30)) := (Below.refl _ _).alloc (Nat.le_refl _) _
  have hz0 : w.heap.size < (w.alloc (Obj.cells #[.slice none 0 c0, .slice none 0 c1, .slice none 0 c2, .slice A ls.length c, v4, v5, .slice (some ⟨rb, 0, none⟩) 1 c6, v7] 30)).heap.size := by simp
  have q0 : (w.alloc (Obj.cells #[.slice none 0 c0, .slice none 0 c1, .slice none 0 c2, .slice A ls.length c, v4, v5, .slice (some ⟨rb, 0, none⟩) 1 c6, v7] 30)).cell? ⟨w.heap.size, 0, none⟩ = some (.slice none 0 c0) := by go_simp
  have q1 : (w.alloc (Obj.cells #[.slice none 0 c0, .slice none 0 c1, .slice none 0 c2, .slice A ls.length c, v4, v5, .slice (some ⟨rb, 0, none⟩) 1 c6, v7] 30)).cell? ⟨w.heap.size, 1, none⟩ = some (.slice none 0 c1) := by go_simp
  have q2 : (w.alloc (Obj.cells #[.slice none 0 c0, .slice none 0 c1, .slice none 0 c2, .slice A ls.length c, v4, v5, .slice (some ⟨rb, 0, none⟩) 1 c6, v7] 30)).cell? ⟨w.heap.size, 2, none⟩ = some (.slice none 0 c2) := by go_simp
  have q3 : (w.alloc (Obj.cells #[.slice none 0 c0, .slice none 0 c1, .slice none 0 c2, .slice A ls.length c, v4, v5, .slice (some ⟨rb, 0, none⟩) 1 c6, v7] 30)).cell? ⟨w.heap.size, 3, none⟩ = some (.slice A ls.length c) := by go_simp
  have q4 : (w.alloc (Obj.cells #[.slice none 0 c0, .slice none 0 c1, .slice none 0 c2, .slice A ls.length c, v4, v5, .slice (some ⟨rb, 0, none⟩) 1 c6, v7] 30)).cell? ⟨w.heap.size, 4, none⟩ = some (v4) := by go_simp
  have q5 : (w.alloc (Obj.cells #[.slice none 0 c0, .slice none 0 c1, .slice none 0 c2, .slice A ls.length c, v4, v5, .slice (some ⟨rb, 0, none⟩) 1 c6, v7] 30)).cell? ⟨w.heap.size, 5, none⟩ = some (v5) := by go_simp
  have q6 : (w.alloc (Obj.cells #[.slice none 0 c0, .slice none 0 c1, .slice none 0 c2, .slice A ls.length c, v4, v5, .slice (some ⟨rb, 0, none⟩) 1 c6, v7] 30)).cell? ⟨w.heap.size, 6, none⟩ = some (.slice (some ⟨rb, 0, none⟩) 1 c6) := by go_simp
  have q7 : (w.alloc (Obj.cells #[.slice none 0 c0, .slice none 0 c1, .slice none 0 c2, .slice A ls.length c, v4, v5, .slice (some ⟨rb, 0, none⟩) 1 c6, v7] 30)).cell? ⟨w.heap.size, 7, none⟩ = some (v7) := by go_simp
  generalize (w.alloc (Obj.cells #[.slice none 0 c0, .slice none 0 c1, .slice none 0 c2, .slice A ls.length c, v4, v5, .slice (some ⟨rb, 0, none⟩) 1 c6, v7] 30)) = wa at *
  have b0 := pw_cell_below HB0 a0
  have b1 := pw_cell_below HB0 a1
  have b2 := pw_cell_below HB0 a2
  have b3 := pw_cell_below HB0 a3
  have b4 := pw_cell_below HB0 a4
  have b5 := pw_cell_below HB0 a5
  have b6 := pw_cell_below HB0 a6
  have b7 := pw_cell_below HB0 a7
  clear a0 a1 a2 a3 a4 a5 a6 a7
  go_loopg [4, 5, 6, 7, 8, 12] 1 (fun gg _ _ _ _ _ s12 wr => (gg = 0 ∧ s12 = .int .i64 1 ∧ Below w.heap.size w wr) ∨ (s12 = .int .i64 0 ∧ wr = wa ∧ 1 ≤ gg))
  case atStart => exact Or.inr ⟨rfl, rfl, by omega⟩
  case round =>
    rcases hrel with ⟨_, rfl, HB⟩ | ⟨rfl, rfl, hgg⟩
    · go_wp2_with fail
      go_ret
      exact ⟨rfl, HB⟩
    · go_wp2_with fail
      refine (namedService_nil _ _ _).mono ?_
      rintro e w1 ⟨rfl, hb⟩
      have hz1 : w.heap.size < w1.heap.size := by have := hb.size; simp at this; omega
      have hzr : wr.heap.size < w1.heap.size := by have := hb.size; simp at this; omega
      have HB1 : Below w.heap.size w w1 := bthen (HB0.alloc HB0.size _) hb
      have r0 : w1.cell? ⟨wr.heap.size, 0, none⟩ = some (.string ⟨#[97, 110, 121]⟩) := pw_cell_below hb (by go_simp)
      have r1 : w1.cell? ⟨wr.heap.size, 1, none⟩ = some (.string ⟨#[97, 110, 121]⟩) := pw_cell_below hb (by go_simp)
      have r2 : w1.cell? ⟨wr.heap.size, 2, none⟩ = some (.string ⟨#[97, 110, 121]⟩) := pw_cell_below hb (by go_simp)
      have r3 : w1.cell? ⟨wr.heap.size, 3, none⟩ = some (.string ⟨#[97, 110, 121]⟩) := pw_cell_below hb (by go_simp)
      have r4 : w1.cell? ⟨wr.heap.size, 4, none⟩ = some (.string ⟨#[97, 110, 121]⟩) := pw_cell_below hb (by go_simp)
      have r5 : w1.cell? ⟨wr.heap.size, 5, none⟩ = some (.int .i64 1) := pw_cell_below hb (by go_simp)
      have r6 : w1.cell? ⟨wr.heap.size, 6, none⟩ = some (.string (neS hc hl)) := pw_cell_below hb (by go_simp)
      have r7 : w1.cell? ⟨wr.heap.size, 7, none⟩ = some (.bool false) := pw_cell_below hb (by go_simp)
      have p0 : w1.cell? ⟨w.heap.size, 0, none⟩ = some (.slice none 0 c0) := pw_cell_below hb (by go_simp)
      have p1 : w1.cell? ⟨w.heap.size, 1, none⟩ = some (.slice none 0 c1) := pw_cell_below hb (by go_simp)
      have p2 : w1.cell? ⟨w.heap.size, 2, none⟩ = some (.slice none 0 c2) := pw_cell_below hb (by go_simp)
      have p3 : w1.cell? ⟨w.heap.size, 3, none⟩ = some (.slice A ls.length c) := pw_cell_below hb (by go_simp)
      have p4 : w1.cell? ⟨w.heap.size, 4, none⟩ = some (v4) := pw_cell_below hb (by go_simp)
      have p5 : w1.cell? ⟨w.heap.size, 5, none⟩ = some (v5) := pw_cell_below hb (by go_simp)
      have p6 : w1.cell? ⟨w.heap.size, 6, none⟩ = some (.slice (some ⟨rb, 0, none⟩) 1 c6) := pw_cell_below hb (by go_simp)
      have p7 : w1.cell? ⟨w.heap.size, 7, none⟩ = some (v7) := pw_cell_below hb (by go_simp)
      clear hb q0 q1 q2 q3 q4 q5 q6 q7 b0 b1 b2 b3 b4 b5 b6 b7 hz0 HB0
      go_wp2_with fail
      simp only [List.append_eq, List.cons_append, List.nil_append]
      have hR : RS w wr.heap.size A ls.length c c0 c1 c2 c6 rb v4 v5 v7 (neS hc hl) w1 := ⟨HB1, p0, p1, p2, p3, p4, p5, p6, p7, r0, r1, r2, r3, r4, r5, r6, r7⟩
      clear p0 p1 p2 p3 p4 p5 p6 p7 r0 r1 r2 r3 r4 r5 r6 r7 hz1 hzr HB1
      refine wp_region_held_drew (S := RS w wr.heap.size A ls.length c c0 c1 c2 c6 rb v4 v5 v7 (neS hc hl)) (by kernel_rfl) (RS_below hR (Below.drew (Below.refl _ _))) (fun hH => ?_)
      clear hR
      -- 0
      refine wpAnyH_take (i := 0) (oi := { dst := some 33, op := Op.move (Operand.tmp 5), type := 37, pos := "lang.go:197", after := #[], guard := none }) (v := ?_) rfl (by kernel_rfl) (by kernel_rfl) (by kernel_rfl) (fun _ _ _ h => h) (Or.inl ⟨by rfl, ?_⟩) hH ?_
      rotate_left
      · intro w hSw
        obtain ⟨z0, y0, y1, y2, y3, y4, y5, y6, y7, y8, y9, y10, y11, y12, y13, y14, y15⟩ := hSw
        first | (go_simp; done) | (go_simp; with_reducible rfl)
      try simp only [Act.put, List.setIfInBounds_toArray, List.set_cons_zero, List.set_cons_succ]
      -- 1
      refine wpAnyH_take (i := 1) (oi := { dst := some 34, op := Op.fieldAddr 34 (Operand.tmp 4) 0, type := 0, pos := "lang.go:197", after := #[], guard := none }) (v := ?_) rfl (by kernel_rfl) (by kernel_rfl) (by kernel_rfl) (fun _ _ _ h => h) (Or.inl ⟨by rfl, ?_⟩) hH ?_
      rotate_left
      · intro w hSw
        obtain ⟨z0, y0, y1, y2, y3, y4, y5, y6, y7, y8, y9, y10, y11, y12, y13, y14, y15⟩ := hSw
        first | (go_simp; done) | (go_simp; with_reducible rfl)
      try simp only [Act.put, List.setIfInBounds_toArray, List.set_cons_zero, List.set_cons_succ]
      -- 2
      refine wpAnyH_take (i := 2) (oi := { dst := some 35, op := Op.load 9 (Operand.tmp 34), type := 9, pos := "lang.go:197", after := #[{ on := 1, ground := Ground.data }], guard := none }) (v := ?_) rfl (by kernel_rfl) (by kernel_rfl) (by kernel_rfl) (fun _ _ _ h => h) (Or.inl ⟨by rfl, ?_⟩) hH ?_
      rotate_left
      · intro w hSw
        obtain ⟨z0, y0, y1, y2, y3, y4, y5, y6, y7, y8, y9, y10, y11, y12, y13, y14, y15⟩ := hSw
        first | (go_simp; done) | (go_simp; with_reducible rfl)
      try simp only [Act.put, List.setIfInBounds_toArray, List.set_cons_zero, List.set_cons_succ]
      -- 34
      refine wpAnyH_take (i := 34) (oi := { dst := some 67, op := Op.fieldAddr 34 (Operand.tmp 4) 6, type := 0, pos := "lang.go:197", after := #[], guard := none }) (v := ?_) rfl (by kernel_rfl) (by kernel_rfl) (by kernel_rfl) (fun _ _ _ h => h) (Or.inl ⟨by rfl, ?_⟩) hH ?_
      rotate_left
      · intro w hSw
        obtain ⟨z0, y0, y1, y2, y3, y4, y5, y6, y7, y8, y9, y10, y11, y12, y13, y14, y15⟩ := hSw
        first | (go_simp; done) | (go_simp; with_reducible rfl)
      try simp only [Act.put, List.setIfInBounds_toArray, List.set_cons_zero, List.set_cons_succ]
      -- 35
      refine wpAnyH_take (i := 35) (oi := { dst := some 68, op := Op.load 9 (Operand.tmp 67), type := 9, pos := "lang.go:197", after := #[{ on := 34, ground := Ground.data }], guard := none }) (v := ?_) rfl (by kernel_rfl) (by kernel_rfl) (by kernel_rfl) (fun _ _ _ h => h) (Or.inl ⟨by rfl, ?_⟩) hH ?_
      rotate_left
      · intro w hSw
        obtain ⟨z0, y0, y1, y2, y3, y4, y5, y6, y7, y8, y9, y10, y11, y12, y13, y14, y15⟩ := hSw
        first | (go_simp; done) | (go_simp; with_reducible rfl)
      try simp only [Act.put, List.setIfInBounds_toArray, List.set_cons_zero, List.set_cons_succ]
      -- 36
      refine wpAnyH_take (i := 36) (oi := { dst := some 69, op := Op.binOp BinOp.neq 9 (Operand.tmp 68) (Operand.const (Value.string { data := #[] })) 9, type := 4, pos := "lang.go:197", after := #[{ on := 35, ground := Ground.data }], guard := none }) (v := ?_) rfl (by kernel_rfl) (by kernel_rfl) (by kernel_rfl) (fun _ _ _ h => h) (Or.inl ⟨by rfl, ?_⟩) hH ?_
      rotate_left
      · intro w hSw
        obtain ⟨z0, y0, y1, y2, y3, y4, y5, y6, y7, y8, y9, y10, y11, y12, y13, y14, y15⟩ := hSw
        first | (go_simp; done) | (go_simp; with_reducible rfl)
      try simp only [Act.put, List.setIfInBounds_toArray, List.set_cons_zero, List.set_cons_succ]
      -- 46
      refine wpAnyH_take (i := 46) (oi := { dst := some 79, op := Op.fieldAddr 34 (Operand.tmp 4) 5, type := 0, pos := "lang.go:197", after := #[], guard := none }) (v := ?_) rfl (by kernel_rfl) (by kernel_rfl) (by kernel_rfl) (fun _ _ _ h => h) (Or.inl ⟨by rfl, ?_⟩) hH ?_
      rotate_left
      · intro w hSw
        obtain ⟨z0, y0, y1, y2, y3, y4, y5, y6, y7, y8, y9, y10, y11, y12, y13, y14, y15⟩ := hSw
        first | (go_simp; done) | (go_simp; with_reducible rfl)
      try simp only [Act.put, List.setIfInBounds_toArray, List.set_cons_zero, List.set_cons_succ]
      -- 47
      refine wpAnyH_take (i := 47) (oi := { dst := some 80, op := Op.load 3 (Operand.tmp 79), type := 3, pos := "lang.go:197", after := #[{ on := 46, ground := Ground.data }], guard := none }) (v := ?_) rfl (by kernel_rfl) (by kernel_rfl) (by kernel_rfl) (fun _ _ _ h => h) (Or.inl ⟨by rfl, ?_⟩) hH ?_
      rotate_left
      · intro w hSw
        obtain ⟨z0, y0, y1, y2, y3, y4, y5, y6, y7, y8, y9, y10, y11, y12, y13, y14, y15⟩ := hSw
        first | (go_simp; done) | (go_simp; with_reducible rfl)
      try simp only [Act.put, List.setIfInBounds_toArray, List.set_cons_zero, List.set_cons_succ]
      -- 51
      refine wpAnyH_take (i := 51) (oi := { dst := some 84, op := Op.fieldAddr 34 (Operand.tmp 4) 5, type := 0, pos := "lang.go:197", after := #[], guard := none }) (v := ?_) rfl (by kernel_rfl) (by kernel_rfl) (by kernel_rfl) (fun _ _ _ h => h) (Or.inl ⟨by rfl, ?_⟩) hH ?_
      rotate_left
      · intro w hSw
        obtain ⟨z0, y0, y1, y2, y3, y4, y5, y6, y7, y8, y9, y10, y11, y12, y13, y14, y15⟩ := hSw
        first | (go_simp; done) | (go_simp; with_reducible rfl)
      try simp only [Act.put, List.setIfInBounds_toArray, List.set_cons_zero, List.set_cons_succ]
      -- 52
      refine wpAnyH_take (i := 52) (oi := { dst := some 85, op := Op.load 3 (Operand.tmp 84), type := 3, pos := "lang.go:197", after := #[{ on := 51, ground := Ground.data }], guard := none }) (v := ?_) rfl (by kernel_rfl) (by kernel_rfl) (by kernel_rfl) (fun _ _ _ h => h) (Or.inl ⟨by rfl, ?_⟩) hH ?_
      rotate_left
      · intro w hSw
        obtain ⟨z0, y0, y1, y2, y3, y4, y5, y6, y7, y8, y9, y10, y11, y12, y13, y14, y15⟩ := hSw
        first | (go_simp; done) | (go_simp; with_reducible rfl)
      try simp only [Act.put, List.setIfInBounds_toArray, List.set_cons_zero, List.set_cons_succ]
      -- 53
      refine wpAnyH_take (i := 53) (oi := { dst := some 86, op := Op.binOp BinOp.neq 3 (Operand.tmp 85) (Operand.const (Value.int IntKind.i64 1)) 3, type := 4, pos := "lang.go:197", after := #[{ on := 52, ground := Ground.data }], guard := none }) (v := ?_) rfl (by kernel_rfl) (by kernel_rfl) (by kernel_rfl) (fun _ _ _ h => h) (Or.inl ⟨by rfl, ?_⟩) hH ?_
      rotate_left
      · intro w hSw
        obtain ⟨z0, y0, y1, y2, y3, y4, y5, y6, y7, y8, y9, y10, y11, y12, y13, y14, y15⟩ := hSw
        first | (go_simp; done) | (go_simp; with_reducible rfl)
      try simp only [Act.put, List.setIfInBounds_toArray, List.set_cons_zero, List.set_cons_succ]
      -- 64
      refine wpAnyH_take (i := 64) (oi := { dst := some 97, op := Op.fieldAddr 34 (Operand.tmp 4) 7, type := 0, pos := "lang.go:197", after := #[], guard := none }) (v := ?_) rfl (by kernel_rfl) (by kernel_rfl) (by kernel_rfl) (fun _ _ _ h => h) (Or.inl ⟨by rfl, ?_⟩) hH ?_
      rotate_left
      · intro w hSw
        obtain ⟨z0, y0, y1, y2, y3, y4, y5, y6, y7, y8, y9, y10, y11, y12, y13, y14, y15⟩ := hSw
        first | (go_simp; done) | (go_simp; with_reducible rfl)
      try simp only [Act.put, List.setIfInBounds_toArray, List.set_cons_zero, List.set_cons_succ]
      -- 65
      refine wpAnyH_take (i := 65) (oi := { dst := some 98, op := Op.load 4 (Operand.tmp 97), type := 4, pos := "lang.go:197", after := #[{ on := 64, ground := Ground.data }], guard := none }) (v := ?_) rfl (by kernel_rfl) (by kernel_rfl) (by kernel_rfl) (fun _ _ _ h => h) (Or.inl ⟨by rfl, ?_⟩) hH ?_
      rotate_left
      · intro w hSw
        obtain ⟨z0, y0, y1, y2, y3, y4, y5, y6, y7, y8, y9, y10, y11, y12, y13, y14, y15⟩ := hSw
        first | (go_simp; done) | (go_simp; with_reducible rfl)
      try simp only [Act.put, List.setIfInBounds_toArray, List.set_cons_zero, List.set_cons_succ]
      -- 3
      refine wpAnyH_ready (rs := [3]) (by kernel_rfl) (by simp) ?_
      refine AllReadyH.cons (o := { dst := some 36, op := Op.call { callee := Callee.value (Operand.tmp 33), args := #[Operand.tmp 35], argTypes := #[9] }, type := 4, pos := "lang.go:197", after := #[{ on := 0, ground := Ground.data }, { on := 2, ground := Ground.data }], guard := none }) rfl (fun K hK => ?_) AllReadyH.nil
      go_simp
      refine (side_any _ _).mono ?_
      rintro e wn ⟨rfl, hb⟩
      go_wp2_with fail
      refine hK.out _ _ (RS_below hH hb) (fun hH2 => ?_)
      clear hK K hH hb
      have hH := hH2
      clear hH2
      try simp only [Act.put, List.setIfInBounds_toArray, List.set_cons_zero, List.set_cons_succ]
      -- 4
      refine wpAnyH_take (i := 4) (oi := { dst := some 37, op := Op.unOp UnOp.not 4 (Operand.tmp 36), type := 4, pos := "lang.go:197", after := #[{ on := 3, ground := Ground.data }], guard := none }) (v := ?_) rfl (by kernel_rfl) (by kernel_rfl) (by kernel_rfl) (fun _ _ _ h => h) (Or.inl ⟨by rfl, ?_⟩) hH ?_
      rotate_left
      · intro w hSw
        obtain ⟨z0, y0, y1, y2, y3, y4, y5, y6, y7, y8, y9, y10, y11, y12, y13, y14, y15⟩ := hSw
        first | (go_simp; done) | (go_simp; with_reducible rfl)
      try simp only [Act.put, List.setIfInBounds_toArray, List.set_cons_zero, List.set_cons_succ]
      -- 5
      refine wpAnyH_take (i := 5) (oi := { dst := some 38, op := Op.move (Operand.tmp 37), type := 4, pos := "lang.go:197", after := #[{ on := 4, ground := Ground.data }, { on := 3, ground := Ground.chain }], guard := none }) (v := ?_) rfl (by kernel_rfl) (by kernel_rfl) (by kernel_rfl) (fun _ _ _ h => h) (Or.inl ⟨by rfl, ?_⟩) hH ?_
      rotate_left
      · intro w hSw
        obtain ⟨z0, y0, y1, y2, y3, y4, y5, y6, y7, y8, y9, y10, y11, y12, y13, y14, y15⟩ := hSw
        first | (go_simp; done) | (go_simp; with_reducible rfl)
      try simp only [Act.put, List.setIfInBounds_toArray, List.set_cons_zero, List.set_cons_succ]
      -- 6
      refine wpAnyH_take (i := 6) (oi := { dst := some 39, op := Op.move (Operand.tmp 5), type := 37, pos := "lang.go:197", after := #[{ on := 5, ground := Ground.guard }], guard := some (5, false) }) (v := ?_) rfl (by kernel_rfl) (by kernel_rfl) (by kernel_rfl) (fun _ _ _ h => h) (Or.inl ⟨by rfl, ?_⟩) hH ?_
      rotate_left
      · intro w hSw
        obtain ⟨z0, y0, y1, y2, y3, y4, y5, y6, y7, y8, y9, y10, y11, y12, y13, y14, y15⟩ := hSw
        first | (go_simp; done) | (go_simp; with_reducible rfl)
      try simp only [Act.put, List.setIfInBounds_toArray, List.set_cons_zero, List.set_cons_succ]
      -- 7
      refine wpAnyH_take (i := 7) (oi := { dst := some 40, op := Op.fieldAddr 34 (Operand.tmp 4) 1, type := 0, pos := "lang.go:197", after := #[{ on := 5, ground := Ground.guard }], guard := some (5, false) }) (v := ?_) rfl (by kernel_rfl) (by kernel_rfl) (by kernel_rfl) (fun _ _ _ h => h) (Or.inl ⟨by rfl, ?_⟩) hH ?_
      rotate_left
      · intro w hSw
        obtain ⟨z0, y0, y1, y2, y3, y4, y5, y6, y7, y8, y9, y10, y11, y12, y13, y14, y15⟩ := hSw
        first | (go_simp; done) | (go_simp; with_reducible rfl)
      try simp only [Act.put, List.setIfInBounds_toArray, List.set_cons_zero, List.set_cons_succ]
      -- 8
      refine wpAnyH_take (i := 8) (oi := { dst := some 41, op := Op.load 9 (Operand.tmp 40), type := 9, pos := "lang.go:197", after := #[{ on := 7, ground := Ground.data }, { on := 5, ground := Ground.guard }], guard := some (5, false) }) (v := ?_) rfl (by kernel_rfl) (by kernel_rfl) (by kernel_rfl) (fun _ _ _ h => h) (Or.inl ⟨by rfl, ?_⟩) hH ?_
      rotate_left
      · intro w hSw
        obtain ⟨z0, y0, y1, y2, y3, y4, y5, y6, y7, y8, y9, y10, y11, y12, y13, y14, y15⟩ := hSw
        first | (go_simp; done) | (go_simp; with_reducible rfl)
      try simp only [Act.put, List.setIfInBounds_toArray, List.set_cons_zero, List.set_cons_succ]
      -- 9
      refine wpAnyH_ready (rs := [9]) (by kernel_rfl) (by simp) ?_
      refine AllReadyH.cons (o := { dst := some 42, op := Op.call { callee := Callee.value (Operand.tmp 39), args := #[Operand.tmp 41], argTypes := #[9] }, type := 4, pos := "lang.go:197", after := #[{ on := 6, ground := Ground.data }, { on := 8, ground := Ground.data }, { on := 5, ground := Ground.chain }, { on := 5, ground := Ground.guard }], guard := some (5, false) }) rfl (fun K hK => ?_) AllReadyH.nil
      go_simp
      refine (side_any _ _).mono ?_
      rintro e wn ⟨rfl, hb⟩
      go_wp2_with fail
      refine hK.out _ _ (RS_below hH hb) (fun hH2 => ?_)
      clear hK K hH hb
      have hH := hH2
      clear hH2
      try simp only [Act.put, List.setIfInBounds_toArray, List.set_cons_zero, List.set_cons_succ]
      -- 10
      refine wpAnyH_take (i := 10) (oi := { dst := some 43, op := Op.unOp UnOp.not 4 (Operand.tmp 42), type := 4, pos := "lang.go:197", after := #[{ on := 9, ground := Ground.data }, { on := 5, ground := Ground.guard }], guard := some (5, false) }) (v := ?_) rfl (by kernel_rfl) (by kernel_rfl) (by kernel_rfl) (fun _ _ _ h => h) (Or.inl ⟨by rfl, ?_⟩) hH ?_
      rotate_left
      · intro w hSw
        obtain ⟨z0, y0, y1, y2, y3, y4, y5, y6, y7, y8, y9, y10, y11, y12, y13, y14, y15⟩ := hSw
        first | (go_simp; done) | (go_simp; with_reducible rfl)
      try simp only [Act.put, List.setIfInBounds_toArray, List.set_cons_zero, List.set_cons_succ]
      -- 11
      refine wpAnyH_take (i := 11) (oi := { dst := some 44, op := Op.pick (Operand.tmp 38) (Operand.const (Value.bool true)) (Operand.tmp 43), type := 4, pos := "lang.go:197", after := #[{ on := 5, ground := Ground.data }, { on := 10, ground := Ground.data }], guard := none }) (v := ?_) rfl (by kernel_rfl) (by kernel_rfl) (by kernel_rfl) (fun _ _ _ h => h) (Or.inl ⟨by rfl, ?_⟩) hH ?_
      rotate_left
      · intro w hSw
        obtain ⟨z0, y0, y1, y2, y3, y4, y5, y6, y7, y8, y9, y10, y11, y12, y13, y14, y15⟩ := hSw
        first | (go_simp; done) | (go_simp; with_reducible rfl)
      try simp only [Act.put, List.setIfInBounds_toArray, List.set_cons_zero, List.set_cons_succ]
      -- 12
      refine wpAnyH_take (i := 12) (oi := { dst := some 45, op := Op.move (Operand.tmp 44), type := 4, pos := "lang.go:197", after := #[{ on := 11, ground := Ground.data }, { on := 9, ground := Ground.chain }], guard := none }) (v := ?_) rfl (by kernel_rfl) (by kernel_rfl) (by kernel_rfl) (fun _ _ _ h => h) (Or.inl ⟨by rfl, ?_⟩) hH ?_
      rotate_left
      · intro w hSw
        obtain ⟨z0, y0, y1, y2, y3, y4, y5, y6, y7, y8, y9, y10, y11, y12, y13, y14, y15⟩ := hSw
        first | (go_simp; done) | (go_simp; with_reducible rfl)
      try simp only [Act.put, List.setIfInBounds_toArray, List.set_cons_zero, List.set_cons_succ]
      -- 13
      refine wpAnyH_take (i := 13) (oi := { dst := some 46, op := Op.load 30 (Operand.tmp 1), type := 30, pos := "lang.go:197", after := #[{ on := 12, ground := Ground.guard }], guard := some (12, false) }) (v := ?_) rfl (by kernel_rfl) (by kernel_rfl) (by kernel_rfl) (fun _ _ _ h => h) (Or.inl ⟨by rfl, ?_⟩) hH ?_
      rotate_left
      · intro w hSw
        obtain ⟨z0, y0, y1, y2, y3, y4, y5, y6, y7, y8, y9, y10, y11, y12, y13, y14, y15⟩ := hSw
        first | (go_simp; done) | (go_simp; with_reducible rfl)
      try simp only [Act.put, List.setIfInBounds_toArray, List.set_cons_zero, List.set_cons_succ]
      -- 14
      refine wpAnyH_take (i := 14) (oi := { dst := some 47, op := Op.fieldAddr 34 (Operand.tmp 4) 2, type := 0, pos := "lang.go:197", after := #[{ on := 12, ground := Ground.guard }], guard := some (12, false) }) (v := ?_) rfl (by kernel_rfl) (by kernel_rfl) (by kernel_rfl) (fun _ _ _ h => h) (Or.inl ⟨by rfl, ?_⟩) hH ?_
      rotate_left
      · intro w hSw
        obtain ⟨z0, y0, y1, y2, y3, y4, y5, y6, y7, y8, y9, y10, y11, y12, y13, y14, y15⟩ := hSw
        first | (go_simp; done) | (go_simp; with_reducible rfl)
      try simp only [Act.put, List.setIfInBounds_toArray, List.set_cons_zero, List.set_cons_succ]
      -- 15
      refine wpAnyH_take (i := 15) (oi := { dst := some 48, op := Op.load 9 (Operand.tmp 47), type := 9, pos := "lang.go:197", after := #[{ on := 14, ground := Ground.data }, { on := 12, ground := Ground.guard }], guard := some (12, false) }) (v := ?_) rfl (by kernel_rfl) (by kernel_rfl) (by kernel_rfl) (fun _ _ _ h => h) (Or.inl ⟨by rfl, ?_⟩) hH ?_
      rotate_left
      · intro w hSw
        obtain ⟨z0, y0, y1, y2, y3, y4, y5, y6, y7, y8, y9, y10, y11, y12, y13, y14, y15⟩ := hSw
        first | (go_simp; done) | (go_simp; with_reducible rfl)
      try simp only [Act.put, List.setIfInBounds_toArray, List.set_cons_zero, List.set_cons_succ]
      -- 16
      refine wpAnyH_ready (rs := [16]) (by kernel_rfl) (by simp) ?_
      refine AllReadyH.cons (o := { dst := some 49, op := Op.call { callee := Callee.value (Operand.func 34), args := #[Operand.tmp 46, Operand.tmp 48], argTypes := #[30, 9] }, type := 4, pos := "lang.go:197", after := #[{ on := 13, ground := Ground.data }, { on := 15, ground := Ground.data }, { on := 12, ground := Ground.chain }, { on := 12, ground := Ground.guard }], guard := some (12, false) }) rfl (fun K hK => ?_) AllReadyH.nil
      go_simp
      refine (knowsObject_any _ _ _ _ _ _ _ _ _).mono ?_
      rintro e wn ⟨rfl, hb⟩
      go_wp2_with fail
      refine hK.out _ _ (RS_below hH hb) (fun hH2 => ?_)
      clear hK K hH hb
      have hH := hH2
      clear hH2
      try simp only [Act.put, List.setIfInBounds_toArray, List.set_cons_zero, List.set_cons_succ]
      -- 17
      refine wpAnyH_take (i := 17) (oi := { dst := some 50, op := Op.unOp UnOp.not 4 (Operand.tmp 49), type := 4, pos := "lang.go:197", after := #[{ on := 16, ground := Ground.data }, { on := 12, ground := Ground.guard }], guard := some (12, false) }) (v := ?_) rfl (by kernel_rfl) (by kernel_rfl) (by kernel_rfl) (fun _ _ _ h => h) (Or.inl ⟨by rfl, ?_⟩) hH ?_
      rotate_left
      · intro w hSw
        obtain ⟨z0, y0, y1, y2, y3, y4, y5, y6, y7, y8, y9, y10, y11, y12, y13, y14, y15⟩ := hSw
        first | (go_simp; done) | (go_simp; with_reducible rfl)
      try simp only [Act.put, List.setIfInBounds_toArray, List.set_cons_zero, List.set_cons_succ]
      -- 18
      refine wpAnyH_take (i := 18) (oi := { dst := some 51, op := Op.pick (Operand.tmp 45) (Operand.const (Value.bool true)) (Operand.tmp 50), type := 4, pos := "lang.go:197", after := #[{ on := 12, ground := Ground.data }, { on := 17, ground := Ground.data }], guard := none }) (v := ?_) rfl (by kernel_rfl) (by kernel_rfl) (by kernel_rfl) (fun _ _ _ h => h) (Or.inl ⟨by rfl, ?_⟩) hH ?_
      rotate_left
      · intro w hSw
        obtain ⟨z0, y0, y1, y2, y3, y4, y5, y6, y7, y8, y9, y10, y11, y12, y13, y14, y15⟩ := hSw
        first | (go_simp; done) | (go_simp; with_reducible rfl)
      try simp only [Act.put, List.setIfInBounds_toArray, List.set_cons_zero, List.set_cons_succ]
      -- 19
      refine wpAnyH_take (i := 19) (oi := { dst := some 52, op := Op.move (Operand.tmp 51), type := 4, pos := "lang.go:197", after := #[{ on := 18, ground := Ground.data }, { on := 16, ground := Ground.chain }], guard := none }) (v := ?_) rfl (by kernel_rfl) (by kernel_rfl) (by kernel_rfl) (fun _ _ _ h => h) (Or.inl ⟨by rfl, ?_⟩) hH ?_
      rotate_left
      · intro w hSw
        obtain ⟨z0, y0, y1, y2, y3, y4, y5, y6, y7, y8, y9, y10, y11, y12, y13, y14, y15⟩ := hSw
        first | (go_simp; done) | (go_simp; with_reducible rfl)
      try simp only [Act.put, List.setIfInBounds_toArray, List.set_cons_zero, List.set_cons_succ]
      -- 20
      refine wpAnyH_take (i := 20) (oi := { dst := some 53, op := Op.load 30 (Operand.tmp 1), type := 30, pos := "lang.go:197", after := #[{ on := 19, ground := Ground.guard }], guard := some (19, false) }) (v := ?_) rfl (by kernel_rfl) (by kernel_rfl) (by kernel_rfl) (fun _ _ _ h => h) (Or.inl ⟨by rfl, ?_⟩) hH ?_
      rotate_left
      · intro w hSw
        obtain ⟨z0, y0, y1, y2, y3, y4, y5, y6, y7, y8, y9, y10, y11, y12, y13, y14, y15⟩ := hSw
        first | (go_simp; done) | (go_simp; with_reducible rfl)
      try simp only [Act.put, List.setIfInBounds_toArray, List.set_cons_zero, List.set_cons_succ]
      -- 21
      refine wpAnyH_take (i := 21) (oi := { dst := some 54, op := Op.fieldAddr 34 (Operand.tmp 4) 3, type := 0, pos := "lang.go:197", after := #[{ on := 19, ground := Ground.guard }], guard := some (19, false) }) (v := ?_) rfl (by kernel_rfl) (by kernel_rfl) (by kernel_rfl) (fun _ _ _ h => h) (Or.inl ⟨by rfl, ?_⟩) hH ?_
      rotate_left
      · intro w hSw
        obtain ⟨z0, y0, y1, y2, y3, y4, y5, y6, y7, y8, y9, y10, y11, y12, y13, y14, y15⟩ := hSw
        first | (go_simp; done) | (go_simp; with_reducible rfl)
      try simp only [Act.put, List.setIfInBounds_toArray, List.set_cons_zero, List.set_cons_succ]
      -- 22
      refine wpAnyH_take (i := 22) (oi := { dst := some 55, op := Op.load 9 (Operand.tmp 54), type := 9, pos := "lang.go:197", after := #[{ on := 21, ground := Ground.data }, { on := 19, ground := Ground.guard }], guard := some (19, false) }) (v := ?_) rfl (by kernel_rfl) (by kernel_rfl) (by kernel_rfl) (fun _ _ _ h => h) (Or.inl ⟨by rfl, ?_⟩) hH ?_
      rotate_left
      · intro w hSw
        obtain ⟨z0, y0, y1, y2, y3, y4, y5, y6, y7, y8, y9, y10, y11, y12, y13, y14, y15⟩ := hSw
        first | (go_simp; done) | (go_simp; with_reducible rfl)
      try simp only [Act.put, List.setIfInBounds_toArray, List.set_cons_zero, List.set_cons_succ]
      -- 23
      refine wpAnyH_ready (rs := [23]) (by kernel_rfl) (by simp) ?_
      refine AllReadyH.cons (o := { dst := some 56, op := Op.call { callee := Callee.value (Operand.func 34), args := #[Operand.tmp 53, Operand.tmp 55], argTypes := #[30, 9] }, type := 4, pos := "lang.go:197", after := #[{ on := 20, ground := Ground.data }, { on := 22, ground := Ground.data }, { on := 19, ground := Ground.chain }, { on := 19, ground := Ground.guard }], guard := some (19, false) }) rfl (fun K hK => ?_) AllReadyH.nil
      go_simp
      refine (knowsObject_any _ _ _ _ _ _ _ _ _).mono ?_
      rintro e wn ⟨rfl, hb⟩
      go_wp2_with fail
      refine hK.out _ _ (RS_below hH hb) (fun hH2 => ?_)
      clear hK K hH hb
      have hH := hH2
      clear hH2
      try simp only [Act.put, List.setIfInBounds_toArray, List.set_cons_zero, List.set_cons_succ]
      -- 24
      refine wpAnyH_take (i := 24) (oi := { dst := some 57, op := Op.unOp UnOp.not 4 (Operand.tmp 56), type := 4, pos := "lang.go:197", after := #[{ on := 23, ground := Ground.data }, { on := 19, ground := Ground.guard }], guard := some (19, false) }) (v := ?_) rfl (by kernel_rfl) (by kernel_rfl) (by kernel_rfl) (fun _ _ _ h => h) (Or.inl ⟨by rfl, ?_⟩) hH ?_
      rotate_left
      · intro w hSw
        obtain ⟨z0, y0, y1, y2, y3, y4, y5, y6, y7, y8, y9, y10, y11, y12, y13, y14, y15⟩ := hSw
        first | (go_simp; done) | (go_simp; with_reducible rfl)
      try simp only [Act.put, List.setIfInBounds_toArray, List.set_cons_zero, List.set_cons_succ]
      -- 25
      refine wpAnyH_take (i := 25) (oi := { dst := some 58, op := Op.pick (Operand.tmp 52) (Operand.const (Value.bool true)) (Operand.tmp 57), type := 4, pos := "lang.go:197", after := #[{ on := 19, ground := Ground.data }, { on := 24, ground := Ground.data }], guard := none }) (v := ?_) rfl (by kernel_rfl) (by kernel_rfl) (by kernel_rfl) (fun _ _ _ h => h) (Or.inl ⟨by rfl, ?_⟩) hH ?_
      rotate_left
      · intro w hSw
        obtain ⟨z0, y0, y1, y2, y3, y4, y5, y6, y7, y8, y9, y10, y11, y12, y13, y14, y15⟩ := hSw
        first | (go_simp; done) | (go_simp; with_reducible rfl)
      try simp only [Act.put, List.setIfInBounds_toArray, List.set_cons_zero, List.set_cons_succ]
      -- 26
      refine wpAnyH_take (i := 26) (oi := { dst := some 59, op := Op.move (Operand.tmp 58), type := 4, pos := "lang.go:197", after := #[{ on := 25, ground := Ground.data }, { on := 23, ground := Ground.chain }], guard := none }) (v := ?_) rfl (by kernel_rfl) (by kernel_rfl) (by kernel_rfl) (fun _ _ _ h => h) (Or.inl ⟨by rfl, ?_⟩) hH ?_
      rotate_left
      · intro w hSw
        obtain ⟨z0, y0, y1, y2, y3, y4, y5, y6, y7, y8, y9, y10, y11, y12, y13, y14, y15⟩ := hSw
        first | (go_simp; done) | (go_simp; with_reducible rfl)
      try simp only [Act.put, List.setIfInBounds_toArray, List.set_cons_zero, List.set_cons_succ]
      -- 27
      refine wpAnyH_take (i := 27) (oi := { dst := some 60, op := Op.load 30 (Operand.tmp 1), type := 30, pos := "lang.go:197", after := #[{ on := 26, ground := Ground.guard }], guard := some (26, false) }) (v := ?_) rfl (by kernel_rfl) (by kernel_rfl) (by kernel_rfl) (fun _ _ _ h => h) (Or.inl ⟨by rfl, ?_⟩) hH ?_
      rotate_left
      · intro w hSw
        obtain ⟨z0, y0, y1, y2, y3, y4, y5, y6, y7, y8, y9, y10, y11, y12, y13, y14, y15⟩ := hSw
        first | (go_simp; done) | (go_simp; with_reducible rfl)
      try simp only [Act.put, List.setIfInBounds_toArray, List.set_cons_zero, List.set_cons_succ]
      -- 28
      refine wpAnyH_take (i := 28) (oi := { dst := some 61, op := Op.fieldAddr 34 (Operand.tmp 4) 4, type := 0, pos := "lang.go:197", after := #[{ on := 26, ground := Ground.guard }], guard := some (26, false) }) (v := ?_) rfl (by kernel_rfl) (by kernel_rfl) (by kernel_rfl) (fun _ _ _ h => h) (Or.inl ⟨by rfl, ?_⟩) hH ?_
      rotate_left
      · intro w hSw
        obtain ⟨z0, y0, y1, y2, y3, y4, y5, y6, y7, y8, y9, y10, y11, y12, y13, y14, y15⟩ := hSw
        first | (go_simp; done) | (go_simp; with_reducible rfl)
      try simp only [Act.put, List.setIfInBounds_toArray, List.set_cons_zero, List.set_cons_succ]
      -- 29
      refine wpAnyH_take (i := 29) (oi := { dst := some 62, op := Op.load 9 (Operand.tmp 61), type := 9, pos := "lang.go:197", after := #[{ on := 28, ground := Ground.data }, { on := 26, ground := Ground.guard }], guard := some (26, false) }) (v := ?_) rfl (by kernel_rfl) (by kernel_rfl) (by kernel_rfl) (fun _ _ _ h => h) (Or.inl ⟨by rfl, ?_⟩) hH ?_
      rotate_left
      · intro w hSw
        obtain ⟨z0, y0, y1, y2, y3, y4, y5, y6, y7, y8, y9, y10, y11, y12, y13, y14, y15⟩ := hSw
        first | (go_simp; done) | (go_simp; with_reducible rfl)
      try simp only [Act.put, List.setIfInBounds_toArray, List.set_cons_zero, List.set_cons_succ]
      -- 30
      refine wpAnyH_ready (rs := [30]) (by kernel_rfl) (by simp) ?_
      refine AllReadyH.cons (o := { dst := some 63, op := Op.call { callee := Callee.value (Operand.func 35), args := #[Operand.tmp 60, Operand.tmp 62], argTypes := #[30, 9] }, type := 4, pos := "lang.go:197", after := #[{ on := 27, ground := Ground.data }, { on := 29, ground := Ground.data }, { on := 26, ground := Ground.chain }, { on := 26, ground := Ground.guard }], guard := some (26, false) }) rfl (fun K hK => ?_) AllReadyH.nil
      go_simp
      refine (knowsService_any _ _ _ _ _ _ _ _ _).mono ?_
      rintro e wn ⟨rfl, hb⟩
      go_wp2_with fail
      refine hK.out _ _ (RS_below hH hb) (fun hH2 => ?_)
      clear hK K hH hb
      have hH := hH2
      clear hH2
      try simp only [Act.put, List.setIfInBounds_toArray, List.set_cons_zero, List.set_cons_succ]
      -- 31
      refine wpAnyH_take (i := 31) (oi := { dst := some 64, op := Op.unOp UnOp.not 4 (Operand.tmp 63), type := 4, pos := "lang.go:197", after := #[{ on := 30, ground := Ground.data }, { on := 26, ground := Ground.guard }], guard := some (26, false) }) (v := ?_) rfl (by kernel_rfl) (by kernel_rfl) (by kernel_rfl) (fun _ _ _ h => h) (Or.inl ⟨by rfl, ?_⟩) hH ?_
      rotate_left
      · intro w hSw
        obtain ⟨z0, y0, y1, y2, y3, y4, y5, y6, y7, y8, y9, y10, y11, y12, y13, y14, y15⟩ := hSw
        first | (go_simp; done) | (go_simp; with_reducible rfl)
      try simp only [Act.put, List.setIfInBounds_toArray, List.set_cons_zero, List.set_cons_succ]
      -- 32
      refine wpAnyH_take (i := 32) (oi := { dst := some 65, op := Op.pick (Operand.tmp 59) (Operand.const (Value.bool true)) (Operand.tmp 64), type := 4, pos := "lang.go:197", after := #[{ on := 26, ground := Ground.data }, { on := 31, ground := Ground.data }], guard := none }) (v := ?_) rfl (by kernel_rfl) (by kernel_rfl) (by kernel_rfl) (fun _ _ _ h => h) (Or.inl ⟨by rfl, ?_⟩) hH ?_
      rotate_left
      · intro w hSw
        obtain ⟨z0, y0, y1, y2, y3, y4, y5, y6, y7, y8, y9, y10, y11, y12, y13, y14, y15⟩ := hSw
        first | (go_simp; done) | (go_simp; with_reducible rfl)
      try simp only [Act.put, List.setIfInBounds_toArray, List.set_cons_zero, List.set_cons_succ]
      -- 33
      refine wpAnyH_ready (rs := [33]) (by kernel_rfl) (by simp) ?_
      refine AllReadyH.cons (o := { dst := some 66, op := Op.call { callee := Callee.value (Operand.func 13), args := #[Operand.tmp 65, Operand.const (Value.int IntKind.i64 62)], argTypes := #[4, 35] }, type := 35, pos := "lang.go:197", after := #[{ on := 32, ground := Ground.data }, { on := 30, ground := Ground.chain }], guard := none }) rfl (fun K hK => ?_) AllReadyH.nil
      go_simp
      refine (when_is 0 _ _ (by rfl) _).mono ?_
      rintro e wn ⟨rfl, hb⟩
      go_wp2_with fail
      refine hK.out _ _ (RS_below hH hb) (fun hH2 => ?_)
      clear hK K hH hb
      have hH := hH2
      clear hH2
      try simp only [Act.put, List.setIfInBounds_toArray, List.set_cons_zero, List.set_cons_succ]
      -- 37
      refine wpAnyH_take (i := 37) (oi := { dst := some 70, op := Op.move (Operand.tmp 69), type := 4, pos := "lang.go:197", after := #[{ on := 36, ground := Ground.data }, { on := 33, ground := Ground.chain }], guard := none }) (v := ?_) rfl (by kernel_rfl) (by kernel_rfl) (by kernel_rfl) (fun _ _ _ h => h) (Or.inl ⟨by rfl, ?_⟩) hH ?_
      rotate_left
      · intro w hSw
        obtain ⟨z0, y0, y1, y2, y3, y4, y5, y6, y7, y8, y9, y10, y11, y12, y13, y14, y15⟩ := hSw
        first | (go_simp; done) | (go_simp; with_reducible rfl)
      try simp only [Act.put, List.setIfInBounds_toArray, List.set_cons_zero, List.set_cons_succ]
      -- 38
      refine wpAnyH_take (i := 38) (oi := { dst := some 71, op := Op.fieldAddr 30 (Operand.tmp 1) 3, type := 0, pos := "lang.go:197", after := #[{ on := 37, ground := Ground.guard }], guard := some (37, true) }) (v := ?_) rfl (by kernel_rfl) (by kernel_rfl) (by kernel_rfl) (fun _ _ _ h => h) (Or.inl ⟨by rfl, ?_⟩) hH ?_
      rotate_left
      · intro w hSw
        obtain ⟨z0, y0, y1, y2, y3, y4, y5, y6, y7, y8, y9, y10, y11, y12, y13, y14, y15⟩ := hSw
        first | (go_simp; done) | (go_simp; with_reducible rfl)
      try simp only [Act.put, List.setIfInBounds_toArray, List.set_cons_zero, List.set_cons_succ]
      -- 39
      refine wpAnyH_take (i := 39) (oi := { dst := some 72, op := Op.load 25 (Operand.tmp 71), type := 25, pos := "lang.go:197", after := #[{ on := 38, ground := Ground.data }, { on := 37, ground := Ground.guard }], guard := some (37, true) }) (v := ?_) rfl (by kernel_rfl) (by kernel_rfl) (by kernel_rfl) (fun _ _ _ h => h) (Or.inl ⟨by rfl, ?_⟩) hH ?_
      rotate_left
      · intro w hSw
        obtain ⟨z0, y0, y1, y2, y3, y4, y5, y6, y7, y8, y9, y10, y11, y12, y13, y14, y15⟩ := hSw
        first | (go_simp; done) | (go_simp; with_reducible rfl)
      try simp only [Act.put, List.setIfInBounds_toArray, List.set_cons_zero, List.set_cons_succ]
      -- 40
      refine wpAnyH_take (i := 40) (oi := { dst := some 73, op := Op.fieldAddr 34 (Operand.tmp 4) 6, type := 0, pos := "lang.go:197", after := #[{ on := 37, ground := Ground.guard }], guard := some (37, true) }) (v := ?_) rfl (by kernel_rfl) (by kernel_rfl) (by kernel_rfl) (fun _ _ _ h => h) (Or.inl ⟨by rfl, ?_⟩) hH ?_
      rotate_left
      · intro w hSw
        obtain ⟨z0, y0, y1, y2, y3, y4, y5, y6, y7, y8, y9, y10, y11, y12, y13, y14, y15⟩ := hSw
        first | (go_simp; done) | (go_simp; with_reducible rfl)
      try simp only [Act.put, List.setIfInBounds_toArray, List.set_cons_zero, List.set_cons_succ]
      -- 41
      refine wpAnyH_take (i := 41) (oi := { dst := some 74, op := Op.load 9 (Operand.tmp 73), type := 9, pos := "lang.go:197", after := #[{ on := 40, ground := Ground.data }, { on := 37, ground := Ground.guard }], guard := some (37, true) }) (v := ?_) rfl (by kernel_rfl) (by kernel_rfl) (by kernel_rfl) (fun _ _ _ h => h) (Or.inl ⟨by rfl, ?_⟩) hH ?_
      rotate_left
      · intro w hSw
        obtain ⟨z0, y0, y1, y2, y3, y4, y5, y6, y7, y8, y9, y10, y11, y12, y13, y14, y15⟩ := hSw
        first | (go_simp; done) | (go_simp; with_reducible rfl)
      try simp only [Act.put, List.setIfInBounds_toArray, List.set_cons_zero, List.set_cons_succ]
      -- 42
      refine wpAnyH_ready (rs := [42]) (by kernel_rfl) (by simp) ?_
      refine AllReadyH.cons (o := { dst := some 75, op := Op.call { callee := Callee.value (Operand.func 40), args := #[Operand.tmp 72, Operand.func 24, Operand.tmp 74], argTypes := #[25, 66, 9] }, type := 3, pos := "lang.go:198", after := #[{ on := 39, ground := Ground.data }, { on := 41, ground := Ground.data }, { on := 37, ground := Ground.chain }, { on := 37, ground := Ground.guard }], guard := some (37, true) }) rfl (fun K hK => ?_) AllReadyH.nil
      go_simp
      refine (HN.out _ hH.1).mono ?_
      rintro e wn ⟨rfl, hb⟩
      go_wp2_with fail
      refine hK.out _ _ (RS_below hH hb) (fun hH2 => ?_)
      clear hK K hH hb
      have hH := hH2
      clear hH2
      try simp only [Act.put, List.setIfInBounds_toArray, List.set_cons_zero, List.set_cons_succ]
      -- 43
      refine wpAnyH_take (i := 43) (oi := { dst := some 76, op := Op.binOp BinOp.lss 3 (Operand.tmp 75) (Operand.const (Value.int IntKind.i64 0)) 3, type := 4, pos := "lang.go:197", after := #[{ on := 42, ground := Ground.data }, { on := 37, ground := Ground.guard }], guard := some (37, true) }) (v := ?_) rfl (by kernel_rfl) (by kernel_rfl) (by kernel_rfl) (fun _ _ _ h => h) (Or.inl ⟨by rfl, ?_⟩) hH ?_
      rotate_left
      · intro w hSw
        obtain ⟨z0, y0, y1, y2, y3, y4, y5, y6, y7, y8, y9, y10, y11, y12, y13, y14, y15⟩ := hSw
        first | (go_simp; done) | (go_simp; with_reducible rfl)
      try simp only [Act.put, List.setIfInBounds_toArray, List.set_cons_zero, List.set_cons_succ]
      -- 44
      refine wpAnyH_take (i := 44) (oi := { dst := some 77, op := Op.pick (Operand.tmp 70) (Operand.tmp 76) (Operand.const (Value.bool false)), type := 4, pos := "lang.go:197", after := #[{ on := 37, ground := Ground.data }, { on := 43, ground := Ground.data }], guard := none }) (v := ?_) rfl (by kernel_rfl) (by kernel_rfl) (by kernel_rfl) (fun _ _ _ h => h) (Or.inl ⟨by rfl, ?_⟩) hH ?_
      rotate_left
      · intro w hSw
        obtain ⟨z0, y0, y1, y2, y3, y4, y5, y6, y7, y8, y9, y10, y11, y12, y13, y14, y15⟩ := hSw
        first | (go_simp; done) | (go_simp; with_reducible rfl)
      try simp only [Act.put, List.setIfInBounds_toArray, List.set_cons_zero, List.set_cons_succ]
      -- 45
      refine wpAnyH_ready (rs := [45]) (by kernel_rfl) (by simp) ?_
      refine AllReadyH.cons (o := { dst := some 78, op := Op.call { callee := Callee.value (Operand.func 13), args := #[Operand.tmp 77, Operand.const (Value.int IntKind.i64 62)], argTypes := #[4, 35] }, type := 35, pos := "lang.go:198", after := #[{ on := 44, ground := Ground.data }, { on := 42, ground := Ground.chain }], guard := none }) rfl (fun K hK => ?_) AllReadyH.nil
      go_simp
      refine (when_is 0 _ _ (by rfl) _).mono ?_
      rintro e wn ⟨rfl, hb⟩
      go_wp2_with fail
      refine hK.out _ _ (RS_below hH hb) (fun hH2 => ?_)
      clear hK K hH hb
      have hH := hH2
      clear hH2
      try simp only [Act.put, List.setIfInBounds_toArray, List.set_cons_zero, List.set_cons_succ]
      -- 48
      refine wpAnyH_ready (rs := [48]) (by kernel_rfl) (by simp) ?_
      refine AllReadyH.cons (o := { dst := some 81, op := Op.call { callee := Callee.value (Operand.func 16), args := #[Operand.tmp 80, Operand.const (Value.int IntKind.i64 1), Operand.const (Value.int IntKind.i64 3)], argTypes := #[3, 3, 3] }, type := 4, pos := "lang.go:199", after := #[{ on := 47, ground := Ground.data }, { on := 45, ground := Ground.chain }], guard := none }) rfl (fun K hK => ?_) AllReadyH.nil
      go_simp
      refine (fits_calls _ _ _ _).mono ?_
      rintro e wn ⟨rfl, hb⟩
      go_wp2_with fail
      refine hK.out _ _ (RS_below hH hb) (fun hH2 => ?_)
      clear hK K hH hb
      have hH := hH2
      clear hH2
      try simp only [Act.put, List.setIfInBounds_toArray, List.set_cons_zero, List.set_cons_succ]
      -- 49
      refine wpAnyH_take (i := 49) (oi := { dst := some 82, op := Op.unOp UnOp.not 4 (Operand.tmp 81), type := 4, pos := "lang.go:197", after := #[{ on := 48, ground := Ground.data }], guard := none }) (v := ?_) rfl (by kernel_rfl) (by kernel_rfl) (by kernel_rfl) (fun _ _ _ h => h) (Or.inl ⟨by rfl, ?_⟩) hH ?_
      rotate_left
      · intro w hSw
        obtain ⟨z0, y0, y1, y2, y3, y4, y5, y6, y7, y8, y9, y10, y11, y12, y13, y14, y15⟩ := hSw
        first | (go_simp; done) | (go_simp; with_reducible rfl)
      try simp only [Act.put, List.setIfInBounds_toArray, List.set_cons_zero, List.set_cons_succ]
      -- 50
      refine wpAnyH_ready (rs := [50]) (by kernel_rfl) (by simp) ?_
      refine AllReadyH.cons (o := { dst := some 83, op := Op.call { callee := Callee.value (Operand.func 13), args := #[Operand.tmp 82, Operand.const (Value.int IntKind.i64 1)], argTypes := #[4, 35] }, type := 35, pos := "lang.go:199", after := #[{ on := 49, ground := Ground.data }, { on := 48, ground := Ground.chain }], guard := none }) rfl (fun K hK => ?_) AllReadyH.nil
      go_simp
      refine (when_is 0 _ _ (by rfl) _).mono ?_
      rintro e wn ⟨rfl, hb⟩
      go_wp2_with fail
      refine hK.out _ _ (RS_below hH hb) (fun hH2 => ?_)
      clear hK K hH hb
      have hH := hH2
      clear hH2
      try simp only [Act.put, List.setIfInBounds_toArray, List.set_cons_zero, List.set_cons_succ]
      -- 54
      refine wpAnyH_take (i := 54) (oi := { dst := some 87, op := Op.move (Operand.tmp 86), type := 4, pos := "lang.go:197", after := #[{ on := 53, ground := Ground.data }, { on := 50, ground := Ground.chain }], guard := none }) (v := ?_) rfl (by kernel_rfl) (by kernel_rfl) (by kernel_rfl) (fun _ _ _ h => h) (Or.inl ⟨by rfl, ?_⟩) hH ?_
      rotate_left
      · intro w hSw
        obtain ⟨z0, y0, y1, y2, y3, y4, y5, y6, y7, y8, y9, y10, y11, y12, y13, y14, y15⟩ := hSw
        first | (go_simp; done) | (go_simp; with_reducible rfl)
      try simp only [Act.put, List.setIfInBounds_toArray, List.set_cons_zero, List.set_cons_succ]
      -- 55
      refine wpAnyH_take (i := 55) (oi := { dst := some 88, op := Op.fieldAddr 34 (Operand.tmp 4) 6, type := 0, pos := "lang.go:197", after := #[{ on := 54, ground := Ground.guard }], guard := some (54, true) }) (v := undef) rfl (by kernel_rfl) (by kernel_rfl) (by kernel_rfl) (fun _ _ _ h => h) (Or.inr ⟨by rfl, rfl⟩) hH ?_
      try simp only [Act.put, List.setIfInBounds_toArray, List.set_cons_zero, List.set_cons_succ]
      -- 56
      refine wpAnyH_take (i := 56) (oi := { dst := some 89, op := Op.load 9 (Operand.tmp 88), type := 9, pos := "lang.go:197", after := #[{ on := 55, ground := Ground.data }, { on := 54, ground := Ground.guard }], guard := some (54, true) }) (v := undef) rfl (by kernel_rfl) (by kernel_rfl) (by kernel_rfl) (fun _ _ _ h => h) (Or.inr ⟨by rfl, rfl⟩) hH ?_
      try simp only [Act.put, List.setIfInBounds_toArray, List.set_cons_zero, List.set_cons_succ]
      -- 57
      refine wpAnyH_take (i := 57) (oi := { dst := some 90, op := Op.binOp BinOp.neq 9 (Operand.tmp 89) (Operand.const (Value.string { data := #[] })) 9, type := 4, pos := "lang.go:197", after := #[{ on := 56, ground := Ground.data }, { on := 54, ground := Ground.guard }], guard := some (54, true) }) (v := undef) rfl (by kernel_rfl) (by kernel_rfl) (by kernel_rfl) (fun _ _ _ h => h) (Or.inr ⟨by rfl, rfl⟩) hH ?_
      try simp only [Act.put, List.setIfInBounds_toArray, List.set_cons_zero, List.set_cons_succ]
      -- 58
      refine wpAnyH_take (i := 58) (oi := { dst := some 91, op := Op.move (Operand.tmp 90), type := 4, pos := "lang.go:197", after := #[{ on := 57, ground := Ground.data }, { on := 54, ground := Ground.chain }, { on := 54, ground := Ground.guard }], guard := some (54, true) }) (v := undef) rfl (by kernel_rfl) (by kernel_rfl) (by kernel_rfl) (fun _ _ _ h => h) (Or.inr ⟨by rfl, rfl⟩) hH ?_
      try simp only [Act.put, List.setIfInBounds_toArray, List.set_cons_zero, List.set_cons_succ]
      -- 59
      refine wpAnyH_take (i := 59) (oi := { dst := some 92, op := Op.fieldAddr 34 (Operand.tmp 4) 7, type := 0, pos := "lang.go:197", after := #[{ on := 58, ground := Ground.guard }], guard := some (58, false) }) (v := undef) rfl (by kernel_rfl) (by kernel_rfl) (by kernel_rfl) (fun _ _ _ h => h) (Or.inr ⟨by rfl, rfl⟩) hH ?_
      try simp only [Act.put, List.setIfInBounds_toArray, List.set_cons_zero, List.set_cons_succ]
      -- 60
      refine wpAnyH_take (i := 60) (oi := { dst := some 93, op := Op.load 4 (Operand.tmp 92), type := 4, pos := "lang.go:197", after := #[{ on := 59, ground := Ground.data }, { on := 58, ground := Ground.guard }], guard := some (58, false) }) (v := undef) rfl (by kernel_rfl) (by kernel_rfl) (by kernel_rfl) (fun _ _ _ h => h) (Or.inr ⟨by rfl, rfl⟩) hH ?_
      try simp only [Act.put, List.setIfInBounds_toArray, List.set_cons_zero, List.set_cons_succ]
      -- 61
      refine wpAnyH_take (i := 61) (oi := { dst := some 94, op := Op.pick (Operand.tmp 91) (Operand.const (Value.bool true)) (Operand.tmp 93), type := 4, pos := "lang.go:197", after := #[{ on := 58, ground := Ground.data }, { on := 60, ground := Ground.data }, { on := 54, ground := Ground.guard }], guard := some (54, true) }) (v := undef) rfl (by kernel_rfl) (by kernel_rfl) (by kernel_rfl) (fun _ _ _ h => h) (Or.inr ⟨by rfl, rfl⟩) hH ?_
      try simp only [Act.put, List.setIfInBounds_toArray, List.set_cons_zero, List.set_cons_succ]
      -- 62
      refine wpAnyH_take (i := 62) (oi := { dst := some 95, op := Op.pick (Operand.tmp 87) (Operand.tmp 94) (Operand.const (Value.bool false)), type := 4, pos := "lang.go:197", after := #[{ on := 54, ground := Ground.data }, { on := 61, ground := Ground.data }], guard := none }) (v := ?_) rfl (by kernel_rfl) (by kernel_rfl) (by kernel_rfl) (fun _ _ _ h => h) (Or.inl ⟨by rfl, ?_⟩) hH ?_
      rotate_left
      · intro w hSw
        obtain ⟨z0, y0, y1, y2, y3, y4, y5, y6, y7, y8, y9, y10, y11, y12, y13, y14, y15⟩ := hSw
        first | (go_simp; done) | (go_simp; with_reducible rfl)
      try simp only [Act.put, List.setIfInBounds_toArray, List.set_cons_zero, List.set_cons_succ]
      -- 63
      refine wpAnyH_ready (rs := [63]) (by kernel_rfl) (by simp) ?_
      refine AllReadyH.cons (o := { dst := some 96, op := Op.call { callee := Callee.value (Operand.func 13), args := #[Operand.tmp 95, Operand.const (Value.int IntKind.i64 1)], argTypes := #[4, 35] }, type := 35, pos := "lang.go:200", after := #[{ on := 62, ground := Ground.data }, { on := 58, ground := Ground.chain }], guard := none }) rfl (fun K hK => ?_) AllReadyH.nil
      go_simp
      refine (when_is 0 _ _ (by rfl) _).mono ?_
      rintro e wn ⟨rfl, hb⟩
      go_wp2_with fail
      refine hK.out _ _ (RS_below hH hb) (fun hH2 => ?_)
      clear hK K hH hb
      have hH := hH2
      clear hH2
      try simp only [Act.put, List.setIfInBounds_toArray, List.set_cons_zero, List.set_cons_succ]
      -- 66
      refine wpAnyH_take (i := 66) (oi := { dst := some 99, op := Op.move (Operand.tmp 98), type := 4, pos := "lang.go:197", after := #[{ on := 65, ground := Ground.data }, { on := 63, ground := Ground.chain }], guard := none }) (v := ?_) rfl (by kernel_rfl) (by kernel_rfl) (by kernel_rfl) (fun _ _ _ h => h) (Or.inl ⟨by rfl, ?_⟩) hH ?_
      rotate_left
      · intro w hSw
        obtain ⟨z0, y0, y1, y2, y3, y4, y5, y6, y7, y8, y9, y10, y11, y12, y13, y14, y15⟩ := hSw
        first | (go_simp; done) | (go_simp; with_reducible rfl)
      try simp only [Act.put, List.setIfInBounds_toArray, List.set_cons_zero, List.set_cons_succ]
      -- 67
      refine wpAnyH_take (i := 67) (oi := { dst := some 100, op := Op.move (Operand.tmp 7), type := 4, pos := "lang.go:197", after := #[{ on := 66, ground := Ground.guard }], guard := some (66, true) }) (v := undef) rfl (by kernel_rfl) (by kernel_rfl) (by kernel_rfl) (fun _ _ _ h => h) (Or.inr ⟨by rfl, rfl⟩) hH ?_
      try simp only [Act.put, List.setIfInBounds_toArray, List.set_cons_zero, List.set_cons_succ]
      -- 68
      refine wpAnyH_take (i := 68) (oi := { dst := some 101, op := Op.unOp UnOp.not 4 (Operand.tmp 100), type := 4, pos := "lang.go:197", after := #[{ on := 67, ground := Ground.data }, { on := 66, ground := Ground.guard }], guard := some (66, true) }) (v := undef) rfl (by kernel_rfl) (by kernel_rfl) (by kernel_rfl) (fun _ _ _ h => h) (Or.inr ⟨by rfl, rfl⟩) hH ?_
      try simp only [Act.put, List.setIfInBounds_toArray, List.set_cons_zero, List.set_cons_succ]
      -- 69
      refine wpAnyH_take (i := 69) (oi := { dst := some 102, op := Op.pick (Operand.tmp 99) (Operand.tmp 101) (Operand.const (Value.bool false)), type := 4, pos := "lang.go:197", after := #[{ on := 66, ground := Ground.data }, { on := 68, ground := Ground.data }], guard := none }) (v := ?_) rfl (by kernel_rfl) (by kernel_rfl) (by kernel_rfl) (fun _ _ _ h => h) (Or.inl ⟨by rfl, ?_⟩) hH ?_
      rotate_left
      · intro w hSw
        obtain ⟨z0, y0, y1, y2, y3, y4, y5, y6, y7, y8, y9, y10, y11, y12, y13, y14, y15⟩ := hSw
        first | (go_simp; done) | (go_simp; with_reducible rfl)
      try simp only [Act.put, List.setIfInBounds_toArray, List.set_cons_zero, List.set_cons_succ]
      -- 70
      refine wpAnyH_ready (rs := [70]) (by kernel_rfl) (by simp) ?_
      refine AllReadyH.cons (o := { dst := some 103, op := Op.call { callee := Callee.value (Operand.func 13), args := #[Operand.tmp 102, Operand.const (Value.int IntKind.i64 1)], argTypes := #[4, 35] }, type := 35, pos := "lang.go:201", after := #[{ on := 69, ground := Ground.data }, { on := 66, ground := Ground.chain }], guard := none }) rfl (fun K hK => ?_) AllReadyH.nil
      go_simp
      refine (when_is 0 _ _ (by rfl) _).mono ?_
      rintro e wn ⟨rfl, hb⟩
      go_wp2_with fail
      refine hK.out _ _ (RS_below hH hb) (fun hH2 => ?_)
      clear hK K hH hb
      have hH := hH2
      clear hH2
      try simp only [Act.put, List.setIfInBounds_toArray, List.set_cons_zero, List.set_cons_succ]
      -- 71
      refine wpAnyH_ready (rs := [71]) (by kernel_rfl) (by simp) ?_
      refine AllReadyH.cons (o := { dst := some 104, op := Op.buildSlice 96 5 #[(0, Operand.tmp 66), (1, Operand.tmp 78), (2, Operand.tmp 83), (3, Operand.tmp 96), (4, Operand.tmp 103)], type := 96, pos := "lang.go:197", after := #[{ on := 33, ground := Ground.data }, { on := 45, ground := Ground.data }, { on := 50, ground := Ground.data }, { on := 63, ground := Ground.data }, { on := 70, ground := Ground.data }], guard := none }) rfl (fun K hK => ?_) AllReadyH.nil
      go_simp
      refine hK.out _ _ (RS_below hH ((Below.refl _ _).alloc (Nat.le_refl _) _)) (fun hH2 => ?_)
      clear hK K hH
      have hH := hH2
      clear hH2
      try simp only [Act.put, List.setIfInBounds_toArray, List.set_cons_zero, List.set_cons_succ]
      -- 72
      refine wpAnyH_ready (rs := [72]) (by kernel_rfl) (by simp) ?_
      refine AllReadyH.cons (o := { dst := some 105, op := Op.call { callee := Callee.value (Operand.func 32), args := #[Operand.tmp 104], argTypes := #[96] }, type := 35, pos := "lang.go:197", after := #[{ on := 71, ground := Ground.data }, { on := 70, ground := Ground.chain }], guard := none }) rfl (fun K hK => ?_) AllReadyH.nil
      go_simp
      refine (first5 _ _ 0 0 0 0 0 _ (by go_simp) (by go_simp) (by go_simp) (by go_simp) (by go_simp)).mono ?_
      rintro e wn ⟨rfl, hb⟩
      go_wp2_with fail
      refine hK.out _ _ (RS_below hH hb) (fun hH2 => ?_)
      clear hK K hH hb
      have hH := hH2
      clear hH2
      try simp only [Act.put, List.setIfInBounds_toArray, List.set_cons_zero, List.set_cons_succ]
      -- 73
      refine wpAnyH_take (i := 73) (oi := { dst := some 8, op := Op.assign (Operand.tmp 105), type := 35, pos := "lang.go:197", after := ([{ on := 72, ground := Ground.data }, { on := 72, ground := Ground.chain }, { on := 0, ground := Ground.phase }, { on := 1, ground := Ground.phase }, { on := 2, ground := Ground.phase }, { on := 3, ground := Ground.phase }, { on := 4, ground := Ground.phase }, { on := 5, ground := Ground.phase }, { on := 6, ground := Ground.phase }, { on := 7, ground := Ground.phase }, { on := 8, ground := Ground.phase }, { on := 9, ground := Ground.phase }, { on := 10, ground := Ground.phase }, { on := 11, ground := Ground.phase }, { on := 12, ground := Ground.phase }, { on := 13, ground := Ground.phase }, { on := 14, ground := Ground.phase }, { on := 15, ground := Ground.phase }, { on := 16, ground := Ground.phase }, { on := 17, ground := Ground.phase }, { on := 18, ground := Ground.phase }, { on := 19, ground := Ground.phase }, { on := 20, ground := Ground.phase }, { on := 21, ground := Ground.phase }, { on := 22, ground := Ground.phase }, { on := 23, ground := Ground.phase }, { on := 24, ground := Ground.phase }, { on := 25, ground := Ground.phase }, { on := 26, ground := Ground.phase }, { on := 27, ground := Ground.phase }, { on := 28, ground := Ground.phase }, { on := 29, ground := Ground.phase }, { on := 30, ground := Ground.phase }, { on := 31, ground := Ground.phase }, { on := 32, ground := Ground.phase }, { on := 33, ground := Ground.phase }, { on := 34, ground := Ground.phase }].append [{ on := 35, ground := Ground.phase }, { on := 36, ground := Ground.phase }, { on := 37, ground := Ground.phase }, { on := 38, ground := Ground.phase }, { on := 39, ground := Ground.phase }, { on := 40, ground := Ground.phase }, { on := 41, ground := Ground.phase }, { on := 42, ground := Ground.phase }, { on := 43, ground := Ground.phase }, { on := 44, ground := Ground.phase }, { on := 45, ground := Ground.phase }, { on := 46, ground := Ground.phase }, { on := 47, ground := Ground.phase }, { on := 48, ground := Ground.phase }, { on := 49, ground := Ground.phase }, { on := 50, ground := Ground.phase }, { on := 51, ground := Ground.phase }, { on := 52, ground := Ground.phase }, { on := 53, ground := Ground.phase }, { on := 54, ground := Ground.phase }, { on := 55, ground := Ground.phase }, { on := 56, ground := Ground.phase }, { on := 57, ground := Ground.phase }, { on := 58, ground := Ground.phase }, { on := 59, ground := Ground.phase }, { on := 60, ground := Ground.phase }, { on := 61, ground := Ground.phase }, { on := 62, ground := Ground.phase }, { on := 63, ground := Ground.phase }, { on := 64, ground := Ground.phase }, { on := 65, ground := Ground.phase }, { on := 66, ground := Ground.phase }, { on := 67, ground := Ground.phase }, { on := 68, ground := Ground.phase }, { on := 69, ground := Ground.phase }, { on := 70, ground := Ground.phase }, { on := 71, ground := Ground.phase }, { on := 72, ground := Ground.phase }]).toArray, guard := none }) (v := ?_) rfl (by kernel_rfl) (by kernel_rfl) (by kernel_rfl) (fun _ _ _ h => h) (Or.inl ⟨by rfl, ?_⟩) hH ?_
      rotate_left
      · intro w hSw
        obtain ⟨z0, y0, y1, y2, y3, y4, y5, y6, y7, y8, y9, y10, y11, y12, y13, y14, y15⟩ := hSw
        first | (go_simp; done) | (go_simp; with_reducible rfl)
      try simp only [Act.put, List.setIfInBounds_toArray, List.set_cons_zero, List.set_cons_succ]
      refine wpAnyH_done (by kernel_rfl) ?_ _
      go_wp2_with fail
      go_roundg 0
      case measure => omega
      case rel => exact Or.inl ⟨rfl, rfl, And.left hH⟩
end Go.Proofs.YteocdfahhndfoaaDoor.Print
