/-
Ranges in text: the program's PrintRange where it does not refuse and the ends are not the same.
Conditions: the library's tables hold what they hold; numbers of 64 bits.
-/
import Derived.Test.YtgbkeciimddpnaaGreatDoorAddrRf
import Derived.Test.YtgbkeciimddpnaaGreatDoorAddrRt
import Derived.Test.YtgbkeciimddpnaaGreatDoorWords
import Derived.Deep.RegionHeld3
namespace Go.Proofs.YtgbkeciimddpnaaGreatDoor.Ranges
open Go Go.RowKit Go.Proofs.YtgbkeciimddpnaaGreatDoorW.PrintWords Go.Proofs.YtgbkeciimddpnaaGreatDoor.Print Go.Proofs.YtgbkeciimddpnaaGreatDoor.AddrP
theorem eqA24 (d : Nat) (w : World) (x0 y0 : Int) (x1 y1 : Int) :
    (Op.equalIn (d + 2) 24 (.agg #[.int .u64 x0, .int .u64 x1]) (.agg #[.int .u64 y0, .int .u64 y1])).run Tryz.prog w = .ok (x0 == y0 && (x1 == y1)) w := by
  refine eqA_of Tryz.underlying24 (by kernel_rfl) ?_
  refine eqf_cons (by rfl) (by go_simp; rfl) (by go_simp; rfl) (by go_simp) ?_
  exact eqf_last (by rfl) (by go_simp; rfl) (by go_simp; rfl) (by go_simp)
attribute [local go_sem high] eqA24
set_option maxHeartbeats 1600000 in
theorem eqA26 (d : Nat) (w : World) (x0 x1 x2 x3 y0 y1 y2 y3 : Int) :
    (Op.equalIn (d + 4) 26 (.agg #[.int .u64 x0, .int .u64 x1, .int .u64 x2, .int .u64 x3]) (.agg #[.int .u64 y0, .int .u64 y1, .int .u64 y2, .int .u64 y3])).run Tryz.prog w = .ok ((x0 == y0 && (x1 == y1)) && (x2 == y2 && (x3 == y3))) w := by
  refine eqA_of Tryz.underlying26 (by kernel_rfl) ?_
  refine eqf_cons (by rfl) (by go_simp; rfl) (by go_simp; rfl) (by exact eqA24 _ w _ _ _ _) ?_
  exact eqf_last (by rfl) (by go_simp; rfl) (by go_simp; rfl) (by exact eqA24 _ w _ _ _ _)
attribute [local go_sem high] eqA26
/-- Four numbers that lie in a block. -/
structure Box4 (b : Nat) (a0 a1 a2 a3 : Int) (w : World) : Prop where
  c0 : w.cell? ⟨b, 0, none⟩ = some (.int .u64 a0)
  c1 : w.cell? ⟨b, 1, none⟩ = some (.int .u64 a1)
  c2 : w.cell? ⟨b, 2, none⟩ = some (.int .u64 a2)
  c3 : w.cell? ⟨b, 3, none⟩ = some (.int .u64 a3)
theorem Box4.below {b : Nat} {a0 a1 a2 a3 : Int} {w w' : World} (h : Box4 b a0 a1 a2 a3 w) (hb : Below w.heap.size w w') : Box4 b a0 a1 a2 a3 w' :=
  ⟨pw_cell_below hb h.c0, pw_cell_below hb h.c1, pw_cell_below hb h.c2, pw_cell_below hb h.c3⟩
theorem box4_new (w : World) (a0 a1 a2 a3 : Int) (T : TypeId) : Box4 w.heap.size a0 a1 a2 a3 (w.alloc (.cells #[.int .u64 a0, .int .u64 a1, .int .u64 a2, .int .u64 a3] T)) := by
  constructor <;> go_simp
set_option maxRecDepth 100000 in
set_option maxHeartbeats 6400000 in
theorem pr_diff (f0 f1 t0 t1 v l0 l1 sm r0 r1 r2 r3 re : Int) (b1 : Bool) (T T2 U R : ByteArray) (w : World) (hv : ¬ 0 < v) (he : ((f0 == t0) && (f1 == t1)) = false) (hp : PrVars w) (hsz : T.size ≤ 64 ∧ T2.size ≤ 64 ∧ U.size ≤ 64)
    (hd : Hid (((re == 0) = true ∧ ((r0 == f0 && (r1 == f1)) && (r2 == t0 && (r3 == t1))) = true ∧ R = T ++ ⟨#[47]⟩ ++ U) ∨ ((re == 0) = false ∧ R = T ++ ⟨#[45]⟩ ++ T2) ∨ ((re == 0) = true ∧ ((r0 == f0 && (r1 == f1)) && (r2 == t0 && (r3 == t1))) = false ∧ R = T ++ ⟨#[45]⟩ ++ T2)))
    (h26 : ∀ w, Calls Tryz.prog 26 #[.int .u64 (Go.bits .xor .u64 f0 t0)] w fun e' w' => e' = .returned (.int .i64 l0) ∧ w' = w)
    (h26b : ∀ w, Calls Tryz.prog 26 #[.int .u64 (Go.bits .xor .u64 f1 t1)] w fun e' w' => e' = .returned (.int .i64 l1) ∧ w' = w)
    (hsm : sm = (if (l0 == 64) = true then l0 + l1 else l0) - (if b1 = true then 96 else 0))
    (h5 : ∀ (n : Int) w, n = sm → Calls Tryz.prog 5 #[.agg #[.int .u64 f0, .int .u64 f1], .int .i64 n] w fun e' w' => e' = .returned (.tuple #[.agg #[.int .u64 r0, .int .u64 r1, .int .u64 r2, .int .u64 r3], .int .i64 re]) ∧ Below w.heap.size w w')
    (h27 : ∀ (n : Int) w, n = sm → (re == 0) = true → PrVars w → Calls Tryz.prog 27 #[.int .i64 n] w fun e' w' => e' = .returned (.string U) ∧ Below w.heap.size w w')
    (hb0 : 0 ≤ l0 ∧ l0 ≤ 64) (hb1 : 0 ≤ l1 ∧ l1 ≤ 64)
    (h25 : ∀ w, PrVars w → Calls Tryz.prog 25 #[.agg #[.int .u64 f0, .int .u64 f1]] w fun e' w' => e' = .returned (.string T) ∧ Below w.heap.size w w')
    (h25b : ∀ w, PrVars w → Calls Tryz.prog 25 #[.agg #[.int .u64 t0, .int .u64 t1]] w fun e' w' => e' = .returned (.string T2) ∧ Below w.heap.size w w')
    (h20 : ∀ w, Calls Tryz.prog 20 #[.agg #[.int .u64 f0, .int .u64 f1], .agg #[.int .u64 t0, .int .u64 t1]] w fun e' w' => e' = .returned (.int .i64 v) ∧ Below w.heap.size w w')
    (h13 : ∀ w, Calls Tryz.prog 13 #[.agg #[.int .u64 f0, .int .u64 f1]] w fun e' w' => e' = .returned (.bool b1) ∧ Below w.heap.size w w')
    (h13b : ∀ w, Calls Tryz.prog 13 #[.agg #[.int .u64 t0, .int .u64 t1]] w fun e' w' => e' = .returned (.bool b1) ∧ Below w.heap.size w w') :
    Calls Tryz.prog 9 #[.agg #[.int .u64 f0, .int .u64 f1, .int .u64 t0, .int .u64 t1]] w fun e' w' => e' = .returned (.tuple #[.string R, .int .i64 0]) ∧ Below w.heap.size w w' := by
  have H25 := Lib.hid h25
  have H25b := Lib.hid h25b
  have H26 := Lib.hid h26
  have H27 := Lib.hid h27
  have H5 := Lib.hid h5
  have HSM := Lib.hid hsm
  have H26b := Lib.hid h26b
  have HP := Lib.hid hp
  have HZ := Lib.hid hd.out
  have hs1 : ¬ 9223372036854775807 < T.size + 1 := by omega
  have hs2 : ¬ 9223372036854775807 < T.size + 1 + U.size := by omega
  have hs3 : ¬ 9223372036854775807 < T.size + 1 + T2.size := by omega
  clear hsz h25 h25b h26 h26b h27 hp h5 hsm hd
  have H20 := Lib.hid h20
  have H13 := Lib.hid h13
  have H13b := Lib.hid h13b
  clear h20 h13 h13b
  have hS := PS_new w f0 f1 t0 t1 26
  go_enter Tryz.func9, Tryz.ntmps9
  go_wp2_with fail
  generalize w.alloc (.cells #[.int .u64 f0, .int .u64 f1, .int .u64 t0, .int .u64 t1] 26) = w4 at hS ⊢
  have hv2 : decide (0 < v) = false := decide_eq_false (by omega)
  cases b1
  all_goals
    try simp only [List.append_eq, List.cons_append, List.nil_append]
    refine wp_region_held_drew (S := PS w f0 f1 t0 t1) (by kernel_rfl) (PS_below hS (Below.drew (Below.refl _ _))) (fun hH => ?_)
    refine wpAnyH_take (i := 0) (oi := { dst := some 7, op := Op.fieldAddr 26 (Operand.tmp 1) 0, type := 0, pos := "addr.go:207", after := #[], guard := none }) (v := ?_) rfl (by kernel_rfl) (by kernel_rfl) (by kernel_rfl) (fun _ _ _ h => h) (Or.inl ⟨by rfl, ?_⟩) hH ?_
    rotate_left
    · intro w hSw
      obtain ⟨y0, y1, y2, y3, y4⟩ := hSw
      first | (go_simp; done) | (go_simp; with_reducible rfl)
    try simp only [Act.put, List.setIfInBounds_toArray, List.set_cons_zero, List.set_cons_succ]
    refine wpAnyH_take (i := 1) (oi := { dst := some 8, op := Op.load 24 (Operand.tmp 7), type := 24, pos := "addr.go:207", after := #[{ on := 0, ground := Ground.data }], guard := none }) (v := ?_) rfl (by kernel_rfl) (by kernel_rfl) (by kernel_rfl) (fun _ _ _ h => h) (Or.inl ⟨by rfl, ?_⟩) hH ?_
    rotate_left
    · intro w hSw
      obtain ⟨y0, y1, y2, y3, y4⟩ := hSw
      first | (go_simp; done) | (go_simp; with_reducible rfl)
    try simp only [Act.put, List.setIfInBounds_toArray, List.set_cons_zero, List.set_cons_succ]
    refine wpAnyH_take (i := 2) (oi := { dst := some 9, op := Op.fieldAddr 26 (Operand.tmp 1) 1, type := 0, pos := "addr.go:207", after := #[], guard := none }) (v := ?_) rfl (by kernel_rfl) (by kernel_rfl) (by kernel_rfl) (fun _ _ _ h => h) (Or.inl ⟨by rfl, ?_⟩) hH ?_
    rotate_left
    · intro w hSw
      obtain ⟨y0, y1, y2, y3, y4⟩ := hSw
      first | (go_simp; done) | (go_simp; with_reducible rfl)
    try simp only [Act.put, List.setIfInBounds_toArray, List.set_cons_zero, List.set_cons_succ]
    refine wpAnyH_take (i := 3) (oi := { dst := some 10, op := Op.load 24 (Operand.tmp 9), type := 24, pos := "addr.go:207", after := #[{ on := 2, ground := Ground.data }], guard := none }) (v := ?_) rfl (by kernel_rfl) (by kernel_rfl) (by kernel_rfl) (fun _ _ _ h => h) (Or.inl ⟨by rfl, ?_⟩) hH ?_
    rotate_left
    · intro w hSw
      obtain ⟨y0, y1, y2, y3, y4⟩ := hSw
      first | (go_simp; done) | (go_simp; with_reducible rfl)
    try simp only [Act.put, List.setIfInBounds_toArray, List.set_cons_zero, List.set_cons_succ]
    refine wpAnyH_ready (rs := [4]) (by kernel_rfl) (by simp) ?_
    refine AllReadyH.cons (o := { dst := some 11, op := Op.call { callee := Callee.value (Operand.func 20), args := #[Operand.tmp 8, Operand.tmp 10], argTypes := #[24, 24] }, type := 3, pos := "addr.go:207", after := #[{ on := 1, ground := Ground.data }, { on := 3, ground := Ground.data }], guard := none }) rfl (fun K hK => ?_) AllReadyH.nil
    go_simp
    refine (H20.out _).mono ?_
    rintro e wn ⟨rfl, hb⟩
    go_wp2_with fail
    refine hK.out _ _ (PS_below hH hb) (fun hH2 => ?_)
    clear hK K hH hb
    have hH := hH2
    clear hH2
    try simp only [Act.put, List.setIfInBounds_toArray, List.set_cons_zero, List.set_cons_succ]
    refine wpAnyH_take (i := 5) (oi := { dst := some 12, op := Op.binOp BinOp.gtr 3 (Operand.tmp 11) (Operand.const (Value.int IntKind.i64 0)) 3, type := 4, pos := "addr.go:207", after := #[{ on := 4, ground := Ground.data }], guard := none }) (v := ?_) rfl (by kernel_rfl) (by kernel_rfl) (by kernel_rfl) (fun _ _ _ h => h) (Or.inl ⟨by rfl, ?_⟩) hH ?_
    rotate_left
    · intro w hSw
      obtain ⟨y0, y1, y2, y3, y4⟩ := hSw
      first | (go_simp; done) | (go_simp; with_reducible rfl)
    try simp only [Act.put, List.setIfInBounds_toArray, List.set_cons_zero, List.set_cons_succ]
    refine wpAnyH_take (i := 6) (oi := { dst := some 13, op := Op.move (Operand.tmp 12), type := 4, pos := "addr.go:207", after := #[{ on := 5, ground := Ground.data }, { on := 4, ground := Ground.chain }], guard := none }) (v := ?_) rfl (by kernel_rfl) (by kernel_rfl) (by kernel_rfl) (fun _ _ _ h => h) (Or.inl ⟨by rfl, ?_⟩) hH ?_
    rotate_left
    · intro w hSw
      obtain ⟨y0, y1, y2, y3, y4⟩ := hSw
      first | (go_simp; done) | (go_simp; with_reducible rfl)
    try simp only [Act.put, List.setIfInBounds_toArray, List.set_cons_zero, List.set_cons_succ]
    refine wpAnyH_take (i := 7) (oi := { dst := some 14, op := Op.fieldAddr 26 (Operand.tmp 1) 0, type := 0, pos := "addr.go:207", after := #[{ on := 6, ground := Ground.guard }], guard := some (6, false) }) (v := ?_) rfl (by kernel_rfl) (by kernel_rfl) (by kernel_rfl) (fun _ _ _ h => h) (Or.inl ⟨by rfl, ?_⟩) hH ?_
    rotate_left
    · intro w hSw
      obtain ⟨y0, y1, y2, y3, y4⟩ := hSw
      first | (go_simp; done) | (go_simp; with_reducible rfl)
    try simp only [Act.put, List.setIfInBounds_toArray, List.set_cons_zero, List.set_cons_succ]
    refine wpAnyH_take (i := 8) (oi := { dst := some 15, op := Op.load 24 (Operand.tmp 14), type := 24, pos := "addr.go:207", after := #[{ on := 7, ground := Ground.data }, { on := 6, ground := Ground.guard }], guard := some (6, false) }) (v := ?_) rfl (by kernel_rfl) (by kernel_rfl) (by kernel_rfl) (fun _ _ _ h => h) (Or.inl ⟨by rfl, ?_⟩) hH ?_
    rotate_left
    · intro w hSw
      obtain ⟨y0, y1, y2, y3, y4⟩ := hSw
      first | (go_simp; done) | (go_simp; with_reducible rfl)
    try simp only [Act.put, List.setIfInBounds_toArray, List.set_cons_zero, List.set_cons_succ]
    refine wpAnyH_take (i := 10) (oi := { dst := some 17, op := Op.fieldAddr 26 (Operand.tmp 1) 1, type := 0, pos := "addr.go:207", after := #[{ on := 6, ground := Ground.guard }], guard := some (6, false) }) (v := ?_) rfl (by kernel_rfl) (by kernel_rfl) (by kernel_rfl) (fun _ _ _ h => h) (Or.inl ⟨by rfl, ?_⟩) hH ?_
    rotate_left
    · intro w hSw
      obtain ⟨y0, y1, y2, y3, y4⟩ := hSw
      first | (go_simp; done) | (go_simp; with_reducible rfl)
    try simp only [Act.put, List.setIfInBounds_toArray, List.set_cons_zero, List.set_cons_succ]
    refine wpAnyH_take (i := 11) (oi := { dst := some 18, op := Op.load 24 (Operand.tmp 17), type := 24, pos := "addr.go:207", after := #[{ on := 10, ground := Ground.data }, { on := 6, ground := Ground.guard }], guard := some (6, false) }) (v := ?_) rfl (by kernel_rfl) (by kernel_rfl) (by kernel_rfl) (fun _ _ _ h => h) (Or.inl ⟨by rfl, ?_⟩) hH ?_
    rotate_left
    · intro w hSw
      obtain ⟨y0, y1, y2, y3, y4⟩ := hSw
      first | (go_simp; done) | (go_simp; with_reducible rfl)
    try simp only [Act.put, List.setIfInBounds_toArray, List.set_cons_zero, List.set_cons_succ]
    refine wpAnyH_ready (rs := [9]) (by kernel_rfl) (by simp) ?_
    refine AllReadyH.cons (o := { dst := some 16, op := Op.call { callee := Callee.value (Operand.func 13), args := #[Operand.tmp 15], argTypes := #[24] }, type := 4, pos := "addr.go:207", after := #[{ on := 8, ground := Ground.data }, { on := 6, ground := Ground.chain }, { on := 6, ground := Ground.guard }], guard := some (6, false) }) rfl (fun K hK => ?_) AllReadyH.nil
    go_simp
    refine (H13.out _).mono ?_
    rintro e wn ⟨rfl, hb⟩
    go_wp2_with fail
    refine hK.out _ _ (PS_below hH hb) (fun hH2 => ?_)
    clear hK K hH hb
    have hH := hH2
    clear hH2
    try simp only [Act.put, List.setIfInBounds_toArray, List.set_cons_zero, List.set_cons_succ]
    refine wpAnyH_ready (rs := [12]) (by kernel_rfl) (by simp) ?_
    refine AllReadyH.cons (o := { dst := some 19, op := Op.call { callee := Callee.value (Operand.func 13), args := #[Operand.tmp 18], argTypes := #[24] }, type := 4, pos := "addr.go:207", after := #[{ on := 11, ground := Ground.data }, { on := 9, ground := Ground.chain }, { on := 6, ground := Ground.guard }], guard := some (6, false) }) rfl (fun K hK => ?_) AllReadyH.nil
    go_simp
    refine (H13b.out _).mono ?_
    rintro e wn ⟨rfl, hb⟩
    go_wp2_with fail
    refine hK.out _ _ (PS_below hH hb) (fun hH2 => ?_)
    clear hK K hH hb
    have hH := hH2
    clear hH2
    try simp only [Act.put, List.setIfInBounds_toArray, List.set_cons_zero, List.set_cons_succ]
    refine wpAnyH_take (i := 13) (oi := { dst := some 20, op := Op.binOp BinOp.neq 4 (Operand.tmp 16) (Operand.tmp 19) 4, type := 4, pos := "addr.go:207", after := #[{ on := 9, ground := Ground.data }, { on := 12, ground := Ground.data }, { on := 6, ground := Ground.guard }], guard := some (6, false) }) (v := ?_) rfl (by kernel_rfl) (by kernel_rfl) (by kernel_rfl) (fun _ _ _ h => h) (Or.inl ⟨by rfl, ?_⟩) hH ?_
    rotate_left
    · intro w hSw
      obtain ⟨y0, y1, y2, y3, y4⟩ := hSw
      first | (go_simp; done) | (go_simp; with_reducible rfl)
    try simp only [Act.put, List.setIfInBounds_toArray, List.set_cons_zero, List.set_cons_succ]
    refine wpAnyH_take (i := 14) (oi := { dst := some 21, op := Op.pick (Operand.tmp 13) (Operand.const (Value.bool true)) (Operand.tmp 20), type := 4, pos := "addr.go:207", after := #[{ on := 6, ground := Ground.data }, { on := 13, ground := Ground.data }], guard := none }) (v := ?_) rfl (by kernel_rfl) (by kernel_rfl) (by kernel_rfl) (fun _ _ _ h => h) (Or.inl ⟨by rfl, ?_⟩) hH ?_
    rotate_left
    · intro w hSw
      obtain ⟨y0, y1, y2, y3, y4⟩ := hSw
      first | (go_simp; done) | (go_simp; with_reducible rfl)
    try simp only [Act.put, List.setIfInBounds_toArray, List.set_cons_zero, List.set_cons_succ]
    refine wpAnyH_done (by kernel_rfl) ?_ _
    obtain ⟨hBB, m0, m1, m2, m3⟩ := hH
    go_wp2_with fail
    refine (H26.out _).mono ?_
    rintro e' w' ⟨rfl, rfl⟩
    by_cases c : (l0 == 64) = true
    · go_wp2_with fail
      refine (H26b.out _).mono ?_
      rintro e' w' ⟨rfl, rfl⟩
      go_wp2_with fail
      refine (H13.out _).mono ?_
      rintro e' wx ⟨rfl, hbx⟩
      have hBx := bnext hBB hbx
      have n0 := pw_cell_below hbx m0
      have n1 := pw_cell_below hbx m1
      have n2 := pw_cell_below hbx m2
      have n3 := pw_cell_below hbx m3
      clear hBB hbx m0 m1 m2 m3
      go_wp2_with fail
      refine (H5.out _ _ (by have := HSM.out; simp only [c, if_true, Bool.false_eq_true, if_false] at this; omega)).mono ?_
      rintro e' wy ⟨rfl, hby⟩
      have hBy := ba (bnext hBx hby) (.cells #[.int .u64 r0, .int .u64 r1, .int .u64 r2, .int .u64 r3] 26)
      have hlty : w.heap.size ≤ wy.heap.size := (bnext hBx hby).size
      have hby2 := hby.trans ((ba1 wy (.cells #[.int .u64 r0, .int .u64 r1, .int .u64 r2, .int .u64 r3] 26)).mono hby.size)
      have o0 := pw_cell_below hby2 n0
      have o1 := pw_cell_below hby2 n1
      have o2 := pw_cell_below hby2 n2
      have o3 := pw_cell_below hby2 n3
      clear hBx hby hby2 n0 n1 n2 n3
      rcases HZ.out with ⟨hz, hz2, rfl⟩ | ⟨hz, rfl⟩ | ⟨hz, hz2, rfl⟩
      · go_wp2_with fail
        refine (H25.out _ (HP.out.below hBy)).mono ?_
        rintro e' wz ⟨rfl, hbz⟩
        have hBz := bnext hBy hbz
        clear hbz
        go_wp2_with fail
        refine (H27.out _ _ (by have := HSM.out; simp only [c, if_true, Bool.false_eq_true, if_false] at this; omega) hz (HP.out.below hBz)).mono ?_
        rintro e' wv ⟨rfl, hbv⟩
        have hBv := bnext hBz hbv
        go_wp2_with fail
        exact bodyPost_ret (v := .tuple #[.string _, .int .i64 0]) (by simp [results, Tryz.results9, go_sem]) rfl ⟨rfl, hBv⟩
      · go_wp2_with fail
        try simp only [List.append_eq, List.cons_append, List.nil_append]
        refine wp_region_held_drew (S := PS w f0 f1 t0 t1) (by kernel_rfl) (PS_below ⟨hBy, o0, o1, o2, o3⟩ (Below.drew (Below.refl _ _))) (fun hH => ?_)
        refine wpAnyH_take (i := 0) (oi := { dst := some 76, op := Op.fieldAddr 26 (Operand.tmp 1) 0, type := 0, pos := "addr.go:223", after := #[], guard := none }) (v := ?_) rfl (by kernel_rfl) (by kernel_rfl) (by kernel_rfl) (fun _ _ _ h => h) (Or.inl ⟨by rfl, ?_⟩) hH ?_
        rotate_left
        · intro w hSw
          obtain ⟨y0, y1, y2, y3, y4⟩ := hSw
          first | (go_simp; done) | (go_simp; with_reducible rfl)
        try simp only [Act.put, List.setIfInBounds_toArray, List.set_cons_zero, List.set_cons_succ]
        refine wpAnyH_take (i := 1) (oi := { dst := some 77, op := Op.load 24 (Operand.tmp 76), type := 24, pos := "addr.go:223", after := #[{ on := 0, ground := Ground.data }], guard := none }) (v := ?_) rfl (by kernel_rfl) (by kernel_rfl) (by kernel_rfl) (fun _ _ _ h => h) (Or.inl ⟨by rfl, ?_⟩) hH ?_
        rotate_left
        · intro w hSw
          obtain ⟨y0, y1, y2, y3, y4⟩ := hSw
          first | (go_simp; done) | (go_simp; with_reducible rfl)
        try simp only [Act.put, List.setIfInBounds_toArray, List.set_cons_zero, List.set_cons_succ]
        refine wpAnyH_take (i := 4) (oi := { dst := some 80, op := Op.fieldAddr 26 (Operand.tmp 1) 1, type := 0, pos := "addr.go:223", after := #[], guard := none }) (v := ?_) rfl (by kernel_rfl) (by kernel_rfl) (by kernel_rfl) (fun _ _ _ h => h) (Or.inl ⟨by rfl, ?_⟩) hH ?_
        rotate_left
        · intro w hSw
          obtain ⟨y0, y1, y2, y3, y4⟩ := hSw
          first | (go_simp; done) | (go_simp; with_reducible rfl)
        try simp only [Act.put, List.setIfInBounds_toArray, List.set_cons_zero, List.set_cons_succ]
        refine wpAnyH_take (i := 5) (oi := { dst := some 81, op := Op.load 24 (Operand.tmp 80), type := 24, pos := "addr.go:223", after := #[{ on := 4, ground := Ground.data }], guard := none }) (v := ?_) rfl (by kernel_rfl) (by kernel_rfl) (by kernel_rfl) (fun _ _ _ h => h) (Or.inl ⟨by rfl, ?_⟩) hH ?_
        rotate_left
        · intro w hSw
          obtain ⟨y0, y1, y2, y3, y4⟩ := hSw
          first | (go_simp; done) | (go_simp; with_reducible rfl)
        try simp only [Act.put, List.setIfInBounds_toArray, List.set_cons_zero, List.set_cons_succ]
        refine wpAnyH_ready (rs := [2]) (by kernel_rfl) (by simp) ?_
        refine AllReadyH.cons (o := { dst := some 78, op := Op.call { callee := Callee.value (Operand.func 25), args := #[Operand.tmp 77], argTypes := #[24] }, type := 9, pos := "addr.go:223", after := #[{ on := 1, ground := Ground.data }], guard := none }) rfl (fun K hK => ?_) AllReadyH.nil
        go_simp
        refine (H25.out _ (HP.out.below hH.1)).mono ?_
        rintro e wn ⟨rfl, hb⟩
        go_wp2_with fail
        refine hK.out _ _ (PS_below hH hb) (fun hH2 => ?_)
        clear hK K hH hb
        have hH := hH2
        clear hH2
        try simp only [Act.put, List.setIfInBounds_toArray, List.set_cons_zero, List.set_cons_succ]
        refine wpAnyH_take (i := 3) (oi := { dst := some 79, op := Op.binOp BinOp.add 9 (Operand.tmp 78) (Operand.const (Value.string { data := #[45] })) 9, type := 9, pos := "addr.go:223", after := #[{ on := 2, ground := Ground.data }], guard := none }) (v := ?_) rfl (by kernel_rfl) (by kernel_rfl) (by kernel_rfl) (fun _ _ _ h => h) (Or.inl ⟨by rfl, ?_⟩) hH ?_
        rotate_left
        · intro w hSw
          obtain ⟨y0, y1, y2, y3, y4⟩ := hSw
          first | (go_simp; done) | (go_simp; with_reducible rfl)
        try simp only [Act.put, List.setIfInBounds_toArray, List.set_cons_zero, List.set_cons_succ]
        refine wpAnyH_ready (rs := [6]) (by kernel_rfl) (by simp) ?_
        refine AllReadyH.cons (o := { dst := some 82, op := Op.call { callee := Callee.value (Operand.func 25), args := #[Operand.tmp 81], argTypes := #[24] }, type := 9, pos := "addr.go:223", after := #[{ on := 5, ground := Ground.data }, { on := 2, ground := Ground.chain }], guard := none }) rfl (fun K hK => ?_) AllReadyH.nil
        go_simp
        refine (H25b.out _ (HP.out.below hH.1)).mono ?_
        rintro e wn ⟨rfl, hb⟩
        go_wp2_with fail
        refine hK.out _ _ (PS_below hH hb) (fun hH2 => ?_)
        clear hK K hH hb
        have hH := hH2
        clear hH2
        try simp only [Act.put, List.setIfInBounds_toArray, List.set_cons_zero, List.set_cons_succ]
        refine wpAnyH_take (i := 7) (oi := { dst := some 83, op := Op.binOp BinOp.add 9 (Operand.tmp 79) (Operand.tmp 82) 9, type := 9, pos := "addr.go:223", after := #[{ on := 3, ground := Ground.data }, { on := 6, ground := Ground.data }], guard := none }) (v := ?_) rfl (by kernel_rfl) (by kernel_rfl) (by kernel_rfl) (fun _ _ _ h => h) (Or.inl ⟨by rfl, ?_⟩) hH ?_
        rotate_left
        · intro w hSw
          obtain ⟨y0, y1, y2, y3, y4⟩ := hSw
          first | (go_simp; done) | (go_simp; with_reducible rfl)
        try simp only [Act.put, List.setIfInBounds_toArray, List.set_cons_zero, List.set_cons_succ]
        refine wpAnyH_take (i := 8) (oi := { dst := some 2, op := Op.assign (Operand.tmp 83), type := 9, pos := "addr.go:223", after := #[{ on := 7, ground := Ground.data }, { on := 6, ground := Ground.chain }, { on := 0, ground := Ground.phase }, { on := 1, ground := Ground.phase }, { on := 2, ground := Ground.phase }, { on := 3, ground := Ground.phase }, { on := 4, ground := Ground.phase }, { on := 5, ground := Ground.phase }, { on := 6, ground := Ground.phase }, { on := 7, ground := Ground.phase }], guard := none }) (v := ?_) rfl (by kernel_rfl) (by kernel_rfl) (by kernel_rfl) (fun _ _ _ h => h) (Or.inl ⟨by rfl, ?_⟩) hH ?_
        rotate_left
        · intro w hSw
          obtain ⟨y0, y1, y2, y3, y4⟩ := hSw
          first | (go_simp; done) | (go_simp; with_reducible rfl)
        try simp only [Act.put, List.setIfInBounds_toArray, List.set_cons_zero, List.set_cons_succ]
        refine wpAnyH_take (i := 9) (oi := { dst := some 3, op := Op.assign (Operand.const (Value.int IntKind.i64 0)), type := 27, pos := "addr.go:223", after := #[{ on := 8, ground := Ground.chain }, { on := 0, ground := Ground.phase }, { on := 1, ground := Ground.phase }, { on := 2, ground := Ground.phase }, { on := 3, ground := Ground.phase }, { on := 4, ground := Ground.phase }, { on := 5, ground := Ground.phase }, { on := 6, ground := Ground.phase }, { on := 7, ground := Ground.phase }, { on := 8, ground := Ground.phase }], guard := none }) (v := ?_) rfl (by kernel_rfl) (by kernel_rfl) (by kernel_rfl) (fun _ _ _ h => h) (Or.inl ⟨by rfl, ?_⟩) hH ?_
        rotate_left
        · intro w hSw
          obtain ⟨y0, y1, y2, y3, y4⟩ := hSw
          first | (go_simp; done) | (go_simp; with_reducible rfl)
        try simp only [Act.put, List.setIfInBounds_toArray, List.set_cons_zero, List.set_cons_succ]
        refine wpAnyH_done (by kernel_rfl) ?_ _
        have hBB := hH.1
        go_wp2_with fail
        exact bodyPost_ret (v := .tuple #[.string _, .int .i64 0]) (by simp [results, Tryz.results9, go_sem]) rfl ⟨rfl, hBB⟩
      · go_wp2_with fail
        try simp only [List.append_eq, List.cons_append, List.nil_append]
        refine wp_region_held_drew (S := PS w f0 f1 t0 t1) (by kernel_rfl) (PS_below ⟨hBy, o0, o1, o2, o3⟩ (Below.drew (Below.refl _ _))) (fun hH => ?_)
        refine wpAnyH_take (i := 0) (oi := { dst := some 76, op := Op.fieldAddr 26 (Operand.tmp 1) 0, type := 0, pos := "addr.go:223", after := #[], guard := none }) (v := ?_) rfl (by kernel_rfl) (by kernel_rfl) (by kernel_rfl) (fun _ _ _ h => h) (Or.inl ⟨by rfl, ?_⟩) hH ?_
        rotate_left
        · intro w hSw
          obtain ⟨y0, y1, y2, y3, y4⟩ := hSw
          first | (go_simp; done) | (go_simp; with_reducible rfl)
        try simp only [Act.put, List.setIfInBounds_toArray, List.set_cons_zero, List.set_cons_succ]
        refine wpAnyH_take (i := 1) (oi := { dst := some 77, op := Op.load 24 (Operand.tmp 76), type := 24, pos := "addr.go:223", after := #[{ on := 0, ground := Ground.data }], guard := none }) (v := ?_) rfl (by kernel_rfl) (by kernel_rfl) (by kernel_rfl) (fun _ _ _ h => h) (Or.inl ⟨by rfl, ?_⟩) hH ?_
        rotate_left
        · intro w hSw
          obtain ⟨y0, y1, y2, y3, y4⟩ := hSw
          first | (go_simp; done) | (go_simp; with_reducible rfl)
        try simp only [Act.put, List.setIfInBounds_toArray, List.set_cons_zero, List.set_cons_succ]
        refine wpAnyH_take (i := 4) (oi := { dst := some 80, op := Op.fieldAddr 26 (Operand.tmp 1) 1, type := 0, pos := "addr.go:223", after := #[], guard := none }) (v := ?_) rfl (by kernel_rfl) (by kernel_rfl) (by kernel_rfl) (fun _ _ _ h => h) (Or.inl ⟨by rfl, ?_⟩) hH ?_
        rotate_left
        · intro w hSw
          obtain ⟨y0, y1, y2, y3, y4⟩ := hSw
          first | (go_simp; done) | (go_simp; with_reducible rfl)
        try simp only [Act.put, List.setIfInBounds_toArray, List.set_cons_zero, List.set_cons_succ]
        refine wpAnyH_take (i := 5) (oi := { dst := some 81, op := Op.load 24 (Operand.tmp 80), type := 24, pos := "addr.go:223", after := #[{ on := 4, ground := Ground.data }], guard := none }) (v := ?_) rfl (by kernel_rfl) (by kernel_rfl) (by kernel_rfl) (fun _ _ _ h => h) (Or.inl ⟨by rfl, ?_⟩) hH ?_
        rotate_left
        · intro w hSw
          obtain ⟨y0, y1, y2, y3, y4⟩ := hSw
          first | (go_simp; done) | (go_simp; with_reducible rfl)
        try simp only [Act.put, List.setIfInBounds_toArray, List.set_cons_zero, List.set_cons_succ]
        refine wpAnyH_ready (rs := [2]) (by kernel_rfl) (by simp) ?_
        refine AllReadyH.cons (o := { dst := some 78, op := Op.call { callee := Callee.value (Operand.func 25), args := #[Operand.tmp 77], argTypes := #[24] }, type := 9, pos := "addr.go:223", after := #[{ on := 1, ground := Ground.data }], guard := none }) rfl (fun K hK => ?_) AllReadyH.nil
        go_simp
        refine (H25.out _ (HP.out.below hH.1)).mono ?_
        rintro e wn ⟨rfl, hb⟩
        go_wp2_with fail
        refine hK.out _ _ (PS_below hH hb) (fun hH2 => ?_)
        clear hK K hH hb
        have hH := hH2
        clear hH2
        try simp only [Act.put, List.setIfInBounds_toArray, List.set_cons_zero, List.set_cons_succ]
        refine wpAnyH_take (i := 3) (oi := { dst := some 79, op := Op.binOp BinOp.add 9 (Operand.tmp 78) (Operand.const (Value.string { data := #[45] })) 9, type := 9, pos := "addr.go:223", after := #[{ on := 2, ground := Ground.data }], guard := none }) (v := ?_) rfl (by kernel_rfl) (by kernel_rfl) (by kernel_rfl) (fun _ _ _ h => h) (Or.inl ⟨by rfl, ?_⟩) hH ?_
        rotate_left
        · intro w hSw
          obtain ⟨y0, y1, y2, y3, y4⟩ := hSw
          first | (go_simp; done) | (go_simp; with_reducible rfl)
        try simp only [Act.put, List.setIfInBounds_toArray, List.set_cons_zero, List.set_cons_succ]
        refine wpAnyH_ready (rs := [6]) (by kernel_rfl) (by simp) ?_
        refine AllReadyH.cons (o := { dst := some 82, op := Op.call { callee := Callee.value (Operand.func 25), args := #[Operand.tmp 81], argTypes := #[24] }, type := 9, pos := "addr.go:223", after := #[{ on := 5, ground := Ground.data }, { on := 2, ground := Ground.chain }], guard := none }) rfl (fun K hK => ?_) AllReadyH.nil
        go_simp
        refine (H25b.out _ (HP.out.below hH.1)).mono ?_
        rintro e wn ⟨rfl, hb⟩
        go_wp2_with fail
        refine hK.out _ _ (PS_below hH hb) (fun hH2 => ?_)
        clear hK K hH hb
        have hH := hH2
        clear hH2
        try simp only [Act.put, List.setIfInBounds_toArray, List.set_cons_zero, List.set_cons_succ]
        refine wpAnyH_take (i := 7) (oi := { dst := some 83, op := Op.binOp BinOp.add 9 (Operand.tmp 79) (Operand.tmp 82) 9, type := 9, pos := "addr.go:223", after := #[{ on := 3, ground := Ground.data }, { on := 6, ground := Ground.data }], guard := none }) (v := ?_) rfl (by kernel_rfl) (by kernel_rfl) (by kernel_rfl) (fun _ _ _ h => h) (Or.inl ⟨by rfl, ?_⟩) hH ?_
        rotate_left
        · intro w hSw
          obtain ⟨y0, y1, y2, y3, y4⟩ := hSw
          first | (go_simp; done) | (go_simp; with_reducible rfl)
        try simp only [Act.put, List.setIfInBounds_toArray, List.set_cons_zero, List.set_cons_succ]
        refine wpAnyH_take (i := 8) (oi := { dst := some 2, op := Op.assign (Operand.tmp 83), type := 9, pos := "addr.go:223", after := #[{ on := 7, ground := Ground.data }, { on := 6, ground := Ground.chain }, { on := 0, ground := Ground.phase }, { on := 1, ground := Ground.phase }, { on := 2, ground := Ground.phase }, { on := 3, ground := Ground.phase }, { on := 4, ground := Ground.phase }, { on := 5, ground := Ground.phase }, { on := 6, ground := Ground.phase }, { on := 7, ground := Ground.phase }], guard := none }) (v := ?_) rfl (by kernel_rfl) (by kernel_rfl) (by kernel_rfl) (fun _ _ _ h => h) (Or.inl ⟨by rfl, ?_⟩) hH ?_
        rotate_left
        · intro w hSw
          obtain ⟨y0, y1, y2, y3, y4⟩ := hSw
          first | (go_simp; done) | (go_simp; with_reducible rfl)
        try simp only [Act.put, List.setIfInBounds_toArray, List.set_cons_zero, List.set_cons_succ]
        refine wpAnyH_take (i := 9) (oi := { dst := some 3, op := Op.assign (Operand.const (Value.int IntKind.i64 0)), type := 27, pos := "addr.go:223", after := #[{ on := 8, ground := Ground.chain }, { on := 0, ground := Ground.phase }, { on := 1, ground := Ground.phase }, { on := 2, ground := Ground.phase }, { on := 3, ground := Ground.phase }, { on := 4, ground := Ground.phase }, { on := 5, ground := Ground.phase }, { on := 6, ground := Ground.phase }, { on := 7, ground := Ground.phase }, { on := 8, ground := Ground.phase }], guard := none }) (v := ?_) rfl (by kernel_rfl) (by kernel_rfl) (by kernel_rfl) (fun _ _ _ h => h) (Or.inl ⟨by rfl, ?_⟩) hH ?_
        rotate_left
        · intro w hSw
          obtain ⟨y0, y1, y2, y3, y4⟩ := hSw
          first | (go_simp; done) | (go_simp; with_reducible rfl)
        try simp only [Act.put, List.setIfInBounds_toArray, List.set_cons_zero, List.set_cons_succ]
        refine wpAnyH_done (by kernel_rfl) ?_ _
        have hBB := hH.1
        go_wp2_with fail
        exact bodyPost_ret (v := .tuple #[.string _, .int .i64 0]) (by simp [results, Tryz.results9, go_sem]) rfl ⟨rfl, hBB⟩
    · go_wp2_with fail
      refine (H13.out _).mono ?_
      rintro e' wx ⟨rfl, hbx⟩
      have hBx := bnext hBB hbx
      have n0 := pw_cell_below hbx m0
      have n1 := pw_cell_below hbx m1
      have n2 := pw_cell_below hbx m2
      have n3 := pw_cell_below hbx m3
      clear hBB hbx m0 m1 m2 m3
      go_wp2_with fail
      refine (H5.out _ _ (by have := HSM.out; simp only [c, if_true, Bool.false_eq_true, if_false] at this; omega)).mono ?_
      rintro e' wy ⟨rfl, hby⟩
      have hBy := ba (bnext hBx hby) (.cells #[.int .u64 r0, .int .u64 r1, .int .u64 r2, .int .u64 r3] 26)
      have hlty : w.heap.size ≤ wy.heap.size := (bnext hBx hby).size
      have hby2 := hby.trans ((ba1 wy (.cells #[.int .u64 r0, .int .u64 r1, .int .u64 r2, .int .u64 r3] 26)).mono hby.size)
      have o0 := pw_cell_below hby2 n0
      have o1 := pw_cell_below hby2 n1
      have o2 := pw_cell_below hby2 n2
      have o3 := pw_cell_below hby2 n3
      clear hBx hby hby2 n0 n1 n2 n3
      rcases HZ.out with ⟨hz, hz2, rfl⟩ | ⟨hz, rfl⟩ | ⟨hz, hz2, rfl⟩
      · go_wp2_with fail
        refine (H25.out _ (HP.out.below hBy)).mono ?_
        rintro e' wz ⟨rfl, hbz⟩
        have hBz := bnext hBy hbz
        clear hbz
        go_wp2_with fail
        refine (H27.out _ _ (by have := HSM.out; simp only [c, if_true, Bool.false_eq_true, if_false] at this; omega) hz (HP.out.below hBz)).mono ?_
        rintro e' wv ⟨rfl, hbv⟩
        have hBv := bnext hBz hbv
        go_wp2_with fail
        exact bodyPost_ret (v := .tuple #[.string _, .int .i64 0]) (by simp [results, Tryz.results9, go_sem]) rfl ⟨rfl, hBv⟩
      · go_wp2_with fail
        try simp only [List.append_eq, List.cons_append, List.nil_append]
        refine wp_region_held_drew (S := PS w f0 f1 t0 t1) (by kernel_rfl) (PS_below ⟨hBy, o0, o1, o2, o3⟩ (Below.drew (Below.refl _ _))) (fun hH => ?_)
        refine wpAnyH_take (i := 0) (oi := { dst := some 76, op := Op.fieldAddr 26 (Operand.tmp 1) 0, type := 0, pos := "addr.go:223", after := #[], guard := none }) (v := ?_) rfl (by kernel_rfl) (by kernel_rfl) (by kernel_rfl) (fun _ _ _ h => h) (Or.inl ⟨by rfl, ?_⟩) hH ?_
        rotate_left
        · intro w hSw
          obtain ⟨y0, y1, y2, y3, y4⟩ := hSw
          first | (go_simp; done) | (go_simp; with_reducible rfl)
        try simp only [Act.put, List.setIfInBounds_toArray, List.set_cons_zero, List.set_cons_succ]
        refine wpAnyH_take (i := 1) (oi := { dst := some 77, op := Op.load 24 (Operand.tmp 76), type := 24, pos := "addr.go:223", after := #[{ on := 0, ground := Ground.data }], guard := none }) (v := ?_) rfl (by kernel_rfl) (by kernel_rfl) (by kernel_rfl) (fun _ _ _ h => h) (Or.inl ⟨by rfl, ?_⟩) hH ?_
        rotate_left
        · intro w hSw
          obtain ⟨y0, y1, y2, y3, y4⟩ := hSw
          first | (go_simp; done) | (go_simp; with_reducible rfl)
        try simp only [Act.put, List.setIfInBounds_toArray, List.set_cons_zero, List.set_cons_succ]
        refine wpAnyH_take (i := 4) (oi := { dst := some 80, op := Op.fieldAddr 26 (Operand.tmp 1) 1, type := 0, pos := "addr.go:223", after := #[], guard := none }) (v := ?_) rfl (by kernel_rfl) (by kernel_rfl) (by kernel_rfl) (fun _ _ _ h => h) (Or.inl ⟨by rfl, ?_⟩) hH ?_
        rotate_left
        · intro w hSw
          obtain ⟨y0, y1, y2, y3, y4⟩ := hSw
          first | (go_simp; done) | (go_simp; with_reducible rfl)
        try simp only [Act.put, List.setIfInBounds_toArray, List.set_cons_zero, List.set_cons_succ]
        refine wpAnyH_take (i := 5) (oi := { dst := some 81, op := Op.load 24 (Operand.tmp 80), type := 24, pos := "addr.go:223", after := #[{ on := 4, ground := Ground.data }], guard := none }) (v := ?_) rfl (by kernel_rfl) (by kernel_rfl) (by kernel_rfl) (fun _ _ _ h => h) (Or.inl ⟨by rfl, ?_⟩) hH ?_
        rotate_left
        · intro w hSw
          obtain ⟨y0, y1, y2, y3, y4⟩ := hSw
          first | (go_simp; done) | (go_simp; with_reducible rfl)
        try simp only [Act.put, List.setIfInBounds_toArray, List.set_cons_zero, List.set_cons_succ]
        refine wpAnyH_ready (rs := [2]) (by kernel_rfl) (by simp) ?_
        refine AllReadyH.cons (o := { dst := some 78, op := Op.call { callee := Callee.value (Operand.func 25), args := #[Operand.tmp 77], argTypes := #[24] }, type := 9, pos := "addr.go:223", after := #[{ on := 1, ground := Ground.data }], guard := none }) rfl (fun K hK => ?_) AllReadyH.nil
        go_simp
        refine (H25.out _ (HP.out.below hH.1)).mono ?_
        rintro e wn ⟨rfl, hb⟩
        go_wp2_with fail
        refine hK.out _ _ (PS_below hH hb) (fun hH2 => ?_)
        clear hK K hH hb
        have hH := hH2
        clear hH2
        try simp only [Act.put, List.setIfInBounds_toArray, List.set_cons_zero, List.set_cons_succ]
        refine wpAnyH_take (i := 3) (oi := { dst := some 79, op := Op.binOp BinOp.add 9 (Operand.tmp 78) (Operand.const (Value.string { data := #[45] })) 9, type := 9, pos := "addr.go:223", after := #[{ on := 2, ground := Ground.data }], guard := none }) (v := ?_) rfl (by kernel_rfl) (by kernel_rfl) (by kernel_rfl) (fun _ _ _ h => h) (Or.inl ⟨by rfl, ?_⟩) hH ?_
        rotate_left
        · intro w hSw
          obtain ⟨y0, y1, y2, y3, y4⟩ := hSw
          first | (go_simp; done) | (go_simp; with_reducible rfl)
        try simp only [Act.put, List.setIfInBounds_toArray, List.set_cons_zero, List.set_cons_succ]
        refine wpAnyH_ready (rs := [6]) (by kernel_rfl) (by simp) ?_
        refine AllReadyH.cons (o := { dst := some 82, op := Op.call { callee := Callee.value (Operand.func 25), args := #[Operand.tmp 81], argTypes := #[24] }, type := 9, pos := "addr.go:223", after := #[{ on := 5, ground := Ground.data }, { on := 2, ground := Ground.chain }], guard := none }) rfl (fun K hK => ?_) AllReadyH.nil
        go_simp
        refine (H25b.out _ (HP.out.below hH.1)).mono ?_
        rintro e wn ⟨rfl, hb⟩
        go_wp2_with fail
        refine hK.out _ _ (PS_below hH hb) (fun hH2 => ?_)
        clear hK K hH hb
        have hH := hH2
        clear hH2
        try simp only [Act.put, List.setIfInBounds_toArray, List.set_cons_zero, List.set_cons_succ]
        refine wpAnyH_take (i := 7) (oi := { dst := some 83, op := Op.binOp BinOp.add 9 (Operand.tmp 79) (Operand.tmp 82) 9, type := 9, pos := "addr.go:223", after := #[{ on := 3, ground := Ground.data }, { on := 6, ground := Ground.data }], guard := none }) (v := ?_) rfl (by kernel_rfl) (by kernel_rfl) (by kernel_rfl) (fun _ _ _ h => h) (Or.inl ⟨by rfl, ?_⟩) hH ?_
        rotate_left
        · intro w hSw
          obtain ⟨y0, y1, y2, y3, y4⟩ := hSw
          first | (go_simp; done) | (go_simp; with_reducible rfl)
        try simp only [Act.put, List.setIfInBounds_toArray, List.set_cons_zero, List.set_cons_succ]
        refine wpAnyH_take (i := 8) (oi := { dst := some 2, op := Op.assign (Operand.tmp 83), type := 9, pos := "addr.go:223", after := #[{ on := 7, ground := Ground.data }, { on := 6, ground := Ground.chain }, { on := 0, ground := Ground.phase }, { on := 1, ground := Ground.phase }, { on := 2, ground := Ground.phase }, { on := 3, ground := Ground.phase }, { on := 4, ground := Ground.phase }, { on := 5, ground := Ground.phase }, { on := 6, ground := Ground.phase }, { on := 7, ground := Ground.phase }], guard := none }) (v := ?_) rfl (by kernel_rfl) (by kernel_rfl) (by kernel_rfl) (fun _ _ _ h => h) (Or.inl ⟨by rfl, ?_⟩) hH ?_
        rotate_left
        · intro w hSw
          obtain ⟨y0, y1, y2, y3, y4⟩ := hSw
          first | (go_simp; done) | (go_simp; with_reducible rfl)
        try simp only [Act.put, List.setIfInBounds_toArray, List.set_cons_zero, List.set_cons_succ]
        refine wpAnyH_take (i := 9) (oi := { dst := some 3, op := Op.assign (Operand.const (Value.int IntKind.i64 0)), type := 27, pos := "addr.go:223", after := #[{ on := 8, ground := Ground.chain }, { on := 0, ground := Ground.phase }, { on := 1, ground := Ground.phase }, { on := 2, ground := Ground.phase }, { on := 3, ground := Ground.phase }, { on := 4, ground := Ground.phase }, { on := 5, ground := Ground.phase }, { on := 6, ground := Ground.phase }, { on := 7, ground := Ground.phase }, { on := 8, ground := Ground.phase }], guard := none }) (v := ?_) rfl (by kernel_rfl) (by kernel_rfl) (by kernel_rfl) (fun _ _ _ h => h) (Or.inl ⟨by rfl, ?_⟩) hH ?_
        rotate_left
        · intro w hSw
          obtain ⟨y0, y1, y2, y3, y4⟩ := hSw
          first | (go_simp; done) | (go_simp; with_reducible rfl)
        try simp only [Act.put, List.setIfInBounds_toArray, List.set_cons_zero, List.set_cons_succ]
        refine wpAnyH_done (by kernel_rfl) ?_ _
        have hBB := hH.1
        go_wp2_with fail
        exact bodyPost_ret (v := .tuple #[.string _, .int .i64 0]) (by simp [results, Tryz.results9, go_sem]) rfl ⟨rfl, hBB⟩
      · go_wp2_with fail
        try simp only [List.append_eq, List.cons_append, List.nil_append]
        refine wp_region_held_drew (S := PS w f0 f1 t0 t1) (by kernel_rfl) (PS_below ⟨hBy, o0, o1, o2, o3⟩ (Below.drew (Below.refl _ _))) (fun hH => ?_)
        refine wpAnyH_take (i := 0) (oi := { dst := some 76, op := Op.fieldAddr 26 (Operand.tmp 1) 0, type := 0, pos := "addr.go:223", after := #[], guard := none }) (v := ?_) rfl (by kernel_rfl) (by kernel_rfl) (by kernel_rfl) (fun _ _ _ h => h) (Or.inl ⟨by rfl, ?_⟩) hH ?_
        rotate_left
        · intro w hSw
          obtain ⟨y0, y1, y2, y3, y4⟩ := hSw
          first | (go_simp; done) | (go_simp; with_reducible rfl)
        try simp only [Act.put, List.setIfInBounds_toArray, List.set_cons_zero, List.set_cons_succ]
        refine wpAnyH_take (i := 1) (oi := { dst := some 77, op := Op.load 24 (Operand.tmp 76), type := 24, pos := "addr.go:223", after := #[{ on := 0, ground := Ground.data }], guard := none }) (v := ?_) rfl (by kernel_rfl) (by kernel_rfl) (by kernel_rfl) (fun _ _ _ h => h) (Or.inl ⟨by rfl, ?_⟩) hH ?_
        rotate_left
        · intro w hSw
          obtain ⟨y0, y1, y2, y3, y4⟩ := hSw
          first | (go_simp; done) | (go_simp; with_reducible rfl)
        try simp only [Act.put, List.setIfInBounds_toArray, List.set_cons_zero, List.set_cons_succ]
        refine wpAnyH_take (i := 4) (oi := { dst := some 80, op := Op.fieldAddr 26 (Operand.tmp 1) 1, type := 0, pos := "addr.go:223", after := #[], guard := none }) (v := ?_) rfl (by kernel_rfl) (by kernel_rfl) (by kernel_rfl) (fun _ _ _ h => h) (Or.inl ⟨by rfl, ?_⟩) hH ?_
        rotate_left
        · intro w hSw
          obtain ⟨y0, y1, y2, y3, y4⟩ := hSw
          first | (go_simp; done) | (go_simp; with_reducible rfl)
        try simp only [Act.put, List.setIfInBounds_toArray, List.set_cons_zero, List.set_cons_succ]
        refine wpAnyH_take (i := 5) (oi := { dst := some 81, op := Op.load 24 (Operand.tmp 80), type := 24, pos := "addr.go:223", after := #[{ on := 4, ground := Ground.data }], guard := none }) (v := ?_) rfl (by kernel_rfl) (by kernel_rfl) (by kernel_rfl) (fun _ _ _ h => h) (Or.inl ⟨by rfl, ?_⟩) hH ?_
        rotate_left
        · intro w hSw
          obtain ⟨y0, y1, y2, y3, y4⟩ := hSw
          first | (go_simp; done) | (go_simp; with_reducible rfl)
        try simp only [Act.put, List.setIfInBounds_toArray, List.set_cons_zero, List.set_cons_succ]
        refine wpAnyH_ready (rs := [2]) (by kernel_rfl) (by simp) ?_
        refine AllReadyH.cons (o := { dst := some 78, op := Op.call { callee := Callee.value (Operand.func 25), args := #[Operand.tmp 77], argTypes := #[24] }, type := 9, pos := "addr.go:223", after := #[{ on := 1, ground := Ground.data }], guard := none }) rfl (fun K hK => ?_) AllReadyH.nil
        go_simp
        refine (H25.out _ (HP.out.below hH.1)).mono ?_
        rintro e wn ⟨rfl, hb⟩
        go_wp2_with fail
        refine hK.out _ _ (PS_below hH hb) (fun hH2 => ?_)
        clear hK K hH hb
        have hH := hH2
        clear hH2
        try simp only [Act.put, List.setIfInBounds_toArray, List.set_cons_zero, List.set_cons_succ]
        refine wpAnyH_take (i := 3) (oi := { dst := some 79, op := Op.binOp BinOp.add 9 (Operand.tmp 78) (Operand.const (Value.string { data := #[45] })) 9, type := 9, pos := "addr.go:223", after := #[{ on := 2, ground := Ground.data }], guard := none }) (v := ?_) rfl (by kernel_rfl) (by kernel_rfl) (by kernel_rfl) (fun _ _ _ h => h) (Or.inl ⟨by rfl, ?_⟩) hH ?_
        rotate_left
        · intro w hSw
          obtain ⟨y0, y1, y2, y3, y4⟩ := hSw
          first | (go_simp; done) | (go_simp; with_reducible rfl)
        try simp only [Act.put, List.setIfInBounds_toArray, List.set_cons_zero, List.set_cons_succ]
        refine wpAnyH_ready (rs := [6]) (by kernel_rfl) (by simp) ?_
        refine AllReadyH.cons (o := { dst := some 82, op := Op.call { callee := Callee.value (Operand.func 25), args := #[Operand.tmp 81], argTypes := #[24] }, type := 9, pos := "addr.go:223", after := #[{ on := 5, ground := Ground.data }, { on := 2, ground := Ground.chain }], guard := none }) rfl (fun K hK => ?_) AllReadyH.nil
        go_simp
        refine (H25b.out _ (HP.out.below hH.1)).mono ?_
        rintro e wn ⟨rfl, hb⟩
        go_wp2_with fail
        refine hK.out _ _ (PS_below hH hb) (fun hH2 => ?_)
        clear hK K hH hb
        have hH := hH2
        clear hH2
        try simp only [Act.put, List.setIfInBounds_toArray, List.set_cons_zero, List.set_cons_succ]
        refine wpAnyH_take (i := 7) (oi := { dst := some 83, op := Op.binOp BinOp.add 9 (Operand.tmp 79) (Operand.tmp 82) 9, type := 9, pos := "addr.go:223", after := #[{ on := 3, ground := Ground.data }, { on := 6, ground := Ground.data }], guard := none }) (v := ?_) rfl (by kernel_rfl) (by kernel_rfl) (by kernel_rfl) (fun _ _ _ h => h) (Or.inl ⟨by rfl, ?_⟩) hH ?_
        rotate_left
        · intro w hSw
          obtain ⟨y0, y1, y2, y3, y4⟩ := hSw
          first | (go_simp; done) | (go_simp; with_reducible rfl)
        try simp only [Act.put, List.setIfInBounds_toArray, List.set_cons_zero, List.set_cons_succ]
        refine wpAnyH_take (i := 8) (oi := { dst := some 2, op := Op.assign (Operand.tmp 83), type := 9, pos := "addr.go:223", after := #[{ on := 7, ground := Ground.data }, { on := 6, ground := Ground.chain }, { on := 0, ground := Ground.phase }, { on := 1, ground := Ground.phase }, { on := 2, ground := Ground.phase }, { on := 3, ground := Ground.phase }, { on := 4, ground := Ground.phase }, { on := 5, ground := Ground.phase }, { on := 6, ground := Ground.phase }, { on := 7, ground := Ground.phase }], guard := none }) (v := ?_) rfl (by kernel_rfl) (by kernel_rfl) (by kernel_rfl) (fun _ _ _ h => h) (Or.inl ⟨by rfl, ?_⟩) hH ?_
        rotate_left
        · intro w hSw
          obtain ⟨y0, y1, y2, y3, y4⟩ := hSw
          first | (go_simp; done) | (go_simp; with_reducible rfl)
        try simp only [Act.put, List.setIfInBounds_toArray, List.set_cons_zero, List.set_cons_succ]
        refine wpAnyH_take (i := 9) (oi := { dst := some 3, op := Op.assign (Operand.const (Value.int IntKind.i64 0)), type := 27, pos := "addr.go:223", after := #[{ on := 8, ground := Ground.chain }, { on := 0, ground := Ground.phase }, { on := 1, ground := Ground.phase }, { on := 2, ground := Ground.phase }, { on := 3, ground := Ground.phase }, { on := 4, ground := Ground.phase }, { on := 5, ground := Ground.phase }, { on := 6, ground := Ground.phase }, { on := 7, ground := Ground.phase }, { on := 8, ground := Ground.phase }], guard := none }) (v := ?_) rfl (by kernel_rfl) (by kernel_rfl) (by kernel_rfl) (fun _ _ _ h => h) (Or.inl ⟨by rfl, ?_⟩) hH ?_
        rotate_left
        · intro w hSw
          obtain ⟨y0, y1, y2, y3, y4⟩ := hSw
          first | (go_simp; done) | (go_simp; with_reducible rfl)
        try simp only [Act.put, List.setIfInBounds_toArray, List.set_cons_zero, List.set_cons_succ]
        refine wpAnyH_done (by kernel_rfl) ?_ _
        have hBB := hH.1
        go_wp2_with fail
        exact bodyPost_ret (v := .tuple #[.string _, .int .i64 0]) (by simp [results, Tryz.results9, go_sem]) rfl ⟨rfl, hBB⟩
end Go.Proofs.YtgbkeciimddpnaaGreatDoor.Ranges
