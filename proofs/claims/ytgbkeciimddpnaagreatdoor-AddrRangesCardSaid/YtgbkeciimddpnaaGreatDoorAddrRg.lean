/-
Ranges in text: where the reference finds a byte, what Parse comes to, and the program's ParseRange at a text with a slash, and at one with neither slash nor dash.
Conditions: the library's variables hold what they hold.
-/
import Derived.Test.YtgbkeciimddpnaaGreatDoorAddrPx
import Derived.Lib.Bytealg
import Derived.Lib.IndexLaws
namespace Go.Proofs.YtgbkeciimddpnaaGreatDoor.Ranges
open Go Go.RowKit Go.Proofs.YtgbkeciimddpnaaGreatDoorW.PrintWords Go.Proofs.YtgbkeciimddpnaaGreatDoor.Print Go.Proofs.YtgbkeciimddpnaaGreatDoor.AddrP

theorem idx_cons (b : UInt8) (l : List UInt8) (c : UInt8) : Lib.indexByte (b :: l) c = if b = c then 0 else if Lib.indexByte l c = -1 then -1 else Lib.indexByte l c + 1 := by
  rw [Lib.indexByte]
  simp only [beq_iff_eq]
theorem idx_lt : ∀ (l : List UInt8) (c : UInt8), Lib.indexByte l c < (l.length : Int) ∨ Lib.indexByte l c = -1
  | [], _ => .inr rfl
  | b :: l, c => by
    have ih := idx_lt l c
    rw [idx_cons]
    simp only [List.length_cons]
    split
    · left; omega
    · split
      · right; rfl
      · left; omega
theorem first_from (s : ByteArray) (c : UInt8) (hs : s.size ≤ 4294967296) : ∀ (d i k : Nat), i + d = s.size → d + 1 ≤ k →
    sallyportref03_first.l0 k s (c.toNat : Int) (i : Int) = some (if Lib.indexByte (s.data.toList.drop i) c = -1 then -1 else (i : Int) + Lib.indexByte (s.data.toList.drop i) c) := by
  intro d
  have hz : s.data.toList.length = s.size := (Lib.size_eq s).symm
  induction d with
  | zero =>
    intro i k hi hk
    obtain ⟨m, rfl⟩ : ∃ m, k = m + 1 := ⟨k - 1, by omega⟩
    simp only [sallyportref03_first.l0]
    rw [if_neg (by omega), List.drop_eq_nil_of_le (by omega)]
    simp [Lib.indexByte]
  | succ d ihd =>
    intro i k hi hk
    have hlt : i < s.size := by omega
    obtain ⟨m, rfl⟩ : ∃ m, k = m + 1 := ⟨k - 1, by omega⟩
    simp only [sallyportref03_first.l0]
    rw [if_pos (by omega), if_pos (by omega), Print.bt_at s i hlt, Print.drop_at s i hlt]
    have ih := ihd (i + 1) m (by omega) (by omega)
    have ew : wrap64 ((i : Int) + 1) = ((i + 1 : Nat) : Int) := by unfold wrap64; omega
    rw [ew, ih]
    generalize s[i] = b
    generalize s.data.toList.drop (i + 1) = l
    have hg := Lib.indexByte_ge l c
    rw [idx_cons]
    by_cases hb : b = c
    · subst hb
      simp
    · have hb2 : ¬ ((b.toNat : Int) = (c.toNat : Int)) := fun e => hb (UInt8.toNat_inj.mp (by exact_mod_cast e))
      rw [if_neg hb2, if_neg hb]
      by_cases hm : Lib.indexByte l c = -1
      · simp [hm]
      · rw [if_neg hm, if_neg hm, if_neg (by omega)]
        congr 1
        omega
theorem first_val (s : ByteArray) (c : UInt8) (i : Int) (hs : s.size ≤ 4294967296) (h : Hid (Lib.indexByte s.data.toList c = i)) (w : World) : Calls Tryz.prog 21 #[.string s, .int .u8 (c.toNat : Int)] w fun e w' => e = .returned (.int .i64 i) ∧ Drawn0 w w' := by
  refine sallyportref03_first.calls (s.size + 1) s c.toNat _ w ?_
  unfold sallyportref03_first.f
  rw [show (0 : Int) = ((0 : Nat) : Int) from rfl, first_from s c hs s.size 0 _ (by omega) (by omega), List.drop_zero, h.out]
  have := Lib.indexByte_ge s.data.toList c
  rw [h.out] at this
  by_cases hm : i = -1
  · rw [if_pos hm, hm]
  · rw [if_neg hm]; simp
/-- What Parse comes to: two numbers, and the error. -/
def pz (l : List UInt8) : Int × Int × Int := match parseL l with
  | some p => ((p.1 : Int), (p.2 : Int), 0)
  | none => (0, 0, 30)
theorem pz_cases (l : List UInt8) : (∃ a b : Nat, parseL l = some (a, b) ∧ pz l = ((a : Int), (b : Int), 0) ∧ a < 18446744073709551616 ∧ b < 18446744073709551616 ∧ prA a b = l) ∨ (parseL l = none ∧ pz l = (0, 0, 30)) := by
  unfold pz
  cases h : parseL l with
  | none => exact .inr ⟨rfl, rfl⟩
  | some p =>
    obtain ⟨k1, k2, k3⟩ := parseL_lt l p h
    exact .inl ⟨p.1, p.2, rfl, rfl, k1, k2, k3⟩
theorem parse_pz (s : ByteArray) (x0 x1 e : Int) (hs : s.size < 4294967281) (h : Hid (pz s.data.toList = (x0, x1, e))) (w : World) (hl : LibVars w) (hp : PrVars w) :
    Calls Tryz.prog 18 #[.string s] w fun e' w' => e' = .returned (.tuple #[.agg #[.int .u64 x0, .int .u64 x1], .int .i64 e]) ∧ Below w.heap.size w w' := by
  have h1 := parse_calls s w hs hl hp
  unfold ParsePost at h1
  have h := h.out
  rcases pz_cases s.data.toList with ⟨a, b, e1, e2, _⟩ | ⟨e1, e2⟩ <;> (rw [e2] at h; cases h; rw [e1] at h1; exact h1)
theorem refParse_pz (s : ByteArray) (x0 x1 e : Int) (h : Hid (pz s.data.toList = (x0, x1, e))) (w : World) :
    Calls Tryz.prog 22 #[.string s] w fun e' w' => e' = .returned (.tuple #[.agg #[.int .u64 x0, .int .u64 x1], .int .i64 e]) ∧ Below w.heap.size w w' := by
  have h1 := refParse_calls s w
  unfold ParsePost at h1
  have h := h.out
  rcases pz_cases s.data.toList with ⟨a, b, e1, e2, _⟩ | ⟨e1, e2⟩ <;> (rw [e2] at h; cases h; rw [e1] at h1; exact h1)
theorem pz_bound {l : List UInt8} {x0 x1 e : Int} (h : Hid (pz l = (x0, x1, e))) : (0 ≤ x0 ∧ x0 ≤ top) ∧ (0 ≤ x1 ∧ x1 ≤ top) ∧ (e = 0 ∨ e = 30) := by
  have h := h.out
  unfold top
  rcases pz_cases l with ⟨a, b, e1, e2, k1, k2, _⟩ | ⟨e1, e2⟩ <;> (rw [e2] at h; cases h)
  · exact ⟨⟨by omega, by omega⟩, ⟨by omega, by omega⟩, .inl rfl⟩
  · exact ⟨⟨by omega, by omega⟩, ⟨by omega, by omega⟩, .inr rfl⟩
/-- A result of four numbers that lies in memory, still noughts. -/
structure ResR (b : Nat) (w : World) : Prop where
  c0 : w.cell? ⟨b, 0, none⟩ = some (.int .u64 0)
  c1 : w.cell? ⟨b, 1, none⟩ = some (.int .u64 0)
  c2 : w.cell? ⟨b, 2, none⟩ = some (.int .u64 0)
  c3 : w.cell? ⟨b, 3, none⟩ = some (.int .u64 0)
  f0 : w.frozen? ⟨b, 0, none⟩ = false
  f1 : w.frozen? ⟨b, 1, none⟩ = false
  f2 : w.frozen? ⟨b, 2, none⟩ = false
  f3 : w.frozen? ⟨b, 3, none⟩ = false
theorem ResR.below {b : Nat} {w w' : World} (h : ResR b w) (hb : Below w.heap.size w w') : ResR b w' := by
  have hlt := lt_of_cell h.c0
  obtain ⟨c, f⟩ := bcell hb
  exact ⟨(c _ _ hlt).trans h.c0, (c _ _ hlt).trans h.c1, (c _ _ hlt).trans h.c2, (c _ _ hlt).trans h.c3, (f _ _ hlt).trans h.f0, (f _ _ hlt).trans h.f1, (f _ _ hlt).trans h.f2, (f _ _ hlt).trans h.f3⟩
theorem ResR.drew {b : Nat} {w : World} (h : ResR b w) : ResR b w.drew := ⟨h.c0, h.c1, h.c2, h.c3, h.f0, h.f1, h.f2, h.f3⟩
theorem resR_new (w : World) (T : TypeId) : ResR w.heap.size (w.alloc (.cells #[.int .u64 0, .int .u64 0, .int .u64 0, .int .u64 0] T)) := by
  refine ⟨?_, ?_, ?_, ?_, ?_, ?_, ?_, ?_⟩ <;> go_simp
theorem resR_set {b : Nat} {w : World} (h : ResR b w) (x y z u : Int) : ∃ W : World, W = ((((w.setCell ⟨b, 0, none⟩ (.int .u64 x)).setCell ⟨b, 1, none⟩ (.int .u64 y)).setCell ⟨b, 2, none⟩ (.int .u64 z)).setCell ⟨b, 3, none⟩ (.int .u64 u)) ∧
    W.cell? ⟨b, 0, none⟩ = some (.int .u64 x) ∧ W.cell? ⟨b, 1, none⟩ = some (.int .u64 y) ∧ W.cell? ⟨b, 2, none⟩ = some (.int .u64 z) ∧ W.cell? ⟨b, 3, none⟩ = some (.int .u64 u) := by
  obtain ⟨h0, h1, h2, h3, _, _, _, _⟩ := h
  refine ⟨_, rfl, ?_, ?_, ?_, ?_⟩ <;> go_simp
theorem setBelow4 {b B : Nat} {w0 w : World} (hB : Below B w0 w) (hb : B ≤ b) (x y z u : Value) : Below B w0 ((((w.setCell ⟨b, 0, none⟩ x).setCell ⟨b, 1, none⟩ y).setCell ⟨b, 2, none⟩ z).setCell ⟨b, 3, none⟩ u) := (((hB.setCell hb _).setCell hb _).setCell hb _).setCell hb _
set_option maxHeartbeats 1600000 in
theorem pr_slash (s : ByteArray) (i : Nat) (j x0 x1 e nn r0 r1 r2 r3 re q0 q1 q2 q3 qe : Int) (ok : Bool) (w : World) (hi : i < s.size) (hs : s.size ≤ 4096) (hl : LibVars w) (hp : PrVars w)
    (hq : Hid (((e != 0) = true ∧ q0 = 0 ∧ q1 = 0 ∧ q2 = 0 ∧ q3 = 0 ∧ qe = e) ∨ (e = 0 ∧ ok = false ∧ q0 = 0 ∧ q1 = 0 ∧ q2 = 0 ∧ q3 = 0 ∧ qe = 31) ∨ (e = 0 ∧ ok = true ∧ q0 = r0 ∧ q1 = r1 ∧ q2 = r2 ∧ q3 = r3 ∧ qe = re)))
    (h17 : ∀ w, Calls Tryz.prog 17 #[.string s, .int .u8 47] w fun e w' => e = .returned (.int .i64 i) ∧ w' = w) 
    (h17b : ∀ w, Calls Tryz.prog 17 #[.string s, .int .u8 45] w fun e w' => e = .returned (.int .i64 j) ∧ w' = w)
    (h18 : ∀ w, LibVars w → PrVars w → Calls Tryz.prog 18 #[.string (s.extract 0 i)] w fun e' w' => e' = .returned (.tuple #[.agg #[.int .u64 x0, .int .u64 x1], .int .i64 e]) ∧ Below w.heap.size w w')
    (h19 : ∀ w, Calls Tryz.prog 19 #[.string (s.extract (i + 1) s.size)] w fun e' w' => e' = .returned (.tuple #[.int .i64 nn, .bool ok]) ∧ Below w.heap.size w w')
    (h5 : ∀ w, Calls Tryz.prog 5 #[.agg #[.int .u64 x0, .int .u64 x1], .int .i64 nn] w fun e' w' => e' = .returned (.tuple #[.agg #[.int .u64 r0, .int .u64 r1, .int .u64 r2, .int .u64 r3], .int .i64 re]) ∧ Below w.heap.size w w') : Calls Tryz.prog 7 #[.string s] w fun e' w' => e' = .returned (.tuple #[.agg #[.int .u64 q0, .int .u64 q1, .int .u64 q2, .int .u64 q3], .int .i64 qe]) ∧ Below w.heap.size w w' := by
  have H17 := Lib.hid h17
  have H17b := Lib.hid h17b
  have H18 := Lib.hid h18
  have H19 := Lib.hid h19
  have H5 := Lib.hid h5
  clear h17 h17b h18 h19 h5
  go_enter Tryz.func7, Tryz.ntmps7
  go_wp2_with fail
  refine (H17.out _).mono ?_
  rintro e' w' ⟨rfl, rfl⟩
  go_wp2_with fail
  refine (H17b.out _).mono ?_
  rintro e' w' ⟨rfl, rfl⟩
  go_wp2_with fail
  have hB0 := ba1 w (.cells #[.int .u64 0, .int .u64 0, .int .u64 0, .int .u64 0] 26)
  have hR0 := resR_new w 26
  refine (H18.out _ (hl.below hB0) (hp.below hB0)).mono ?_
  rintro e' w1 ⟨rfl, hb1⟩
  have hB1 := ba (bnext hB0 hb1) (.cells #[.int .u64 x0, .int .u64 x1] 24)
  have hR1 := (hR0.below hb1).below (ba1 w1 (.cells #[.int .u64 x0, .int .u64 x1] 24))
  obtain ⟨z0, z1⟩ := box2_new w1 x0 x1 24
  have hlt1 : w.heap.size + 1 ≤ w1.heap.size := by have := hb1.size; simpa using this
  clear hl hp hB0 hR0 hb1
  rcases hq.out with ⟨he, rfl, rfl, rfl, rfl, rfl⟩ | ⟨rfl, rfl, rfl, rfl, rfl, rfl, rfl⟩ | ⟨rfl, rfl, rfl, rfl, rfl, rfl, rfl⟩
  · obtain ⟨W, hW, s0, s1, s2, s3⟩ := resR_set hR1 0 0 0 0
    have HB' := setBelow4 hB1 (Nat.le_refl w.heap.size) (.int .u64 0) (.int .u64 0) (.int .u64 0) (.int .u64 0)
    obtain ⟨c0, c1, c2, c3, f0, f1, f2, f3⟩ := hR1
    go_wp2_with fail
    rw [← hW] at HB' ⊢
    exact bodyPost_ret (v := .tuple #[.agg #[.int .u64 0, .int .u64 0, .int .u64 0, .int .u64 0], .int .i64 qe]) (by simp [results, Tryz.results7, go_sem, s0, s1, s2, s3]) rfl ⟨rfl, HB'⟩
  · obtain ⟨c0, c1, c2, c3, f0, f1, f2, f3⟩ := hR1
    go_wp2_with fail
    generalize w1.alloc (.cells #[.int .u64 x0, .int .u64 x1] 24) = w2 at hB1 z0 z1 c0 c1 c2 c3 f0 f1 f2 f3 ⊢
    refine (H19.out _).mono ?_
    rintro e' w3 ⟨rfl, hb3⟩
    have hB3 := bnext hB1 hb3
    have hR3 := (ResR.mk c0 c1 c2 c3 f0 f1 f2 f3).below hb3
    obtain ⟨y0, y1⟩ := (Box2.mk z0 z1).below hb3
    clear hB1 hb3 c0 c1 c2 c3 f0 f1 f2 f3 z0 z1
    obtain ⟨W, hW, s0, s1, s2, s3⟩ := resR_set hR3 0 0 0 0
    have HB' := setBelow4 hB3 (Nat.le_refl w.heap.size) (.int .u64 0) (.int .u64 0) (.int .u64 0) (.int .u64 0)
    obtain ⟨c0, c1, c2, c3, f0, f1, f2, f3⟩ := hR3
    go_wp2_with fail
    rw [← hW] at HB' ⊢
    exact bodyPost_ret (v := .tuple #[.agg #[.int .u64 0, .int .u64 0, .int .u64 0, .int .u64 0], .int .i64 31]) (by simp [results, Tryz.results7, go_sem, s0, s1, s2, s3]) rfl ⟨rfl, HB'⟩
  · obtain ⟨c0, c1, c2, c3, f0, f1, f2, f3⟩ := hR1
    go_wp2_with fail
    generalize w1.alloc (.cells #[.int .u64 x0, .int .u64 x1] 24) = w2 at hB1 z0 z1 c0 c1 c2 c3 f0 f1 f2 f3 ⊢
    refine (H19.out _).mono ?_
    rintro e' w3 ⟨rfl, hb3⟩
    have hB3 := bnext hB1 hb3
    have hR3 := (ResR.mk c0 c1 c2 c3 f0 f1 f2 f3).below hb3
    obtain ⟨y0, y1⟩ := (Box2.mk z0 z1).below hb3
    clear hB1 hb3 c0 c1 c2 c3 f0 f1 f2 f3 z0 z1
    obtain ⟨c0, c1, c2, c3, f0, f1, f2, f3⟩ := hR3
    go_wp2_with fail
    refine (H5.out _).mono ?_
    rintro e' w4 ⟨rfl, hb4⟩
    have hB4 := bnext hB3 hb4
    have hR4 := (ResR.mk c0 c1 c2 c3 f0 f1 f2 f3).below hb4
    clear hB3 hb4 c0 c1 c2 c3 f0 f1 f2 f3 y0 y1
    obtain ⟨W, hW, s0, s1, s2, s3⟩ := resR_set hR4 q0 q1 q2 q3
    have HB' := setBelow4 hB4 (Nat.le_refl w.heap.size) (.int .u64 q0) (.int .u64 q1) (.int .u64 q2) (.int .u64 q3)
    obtain ⟨c0, c1, c2, c3, f0, f1, f2, f3⟩ := hR4
    go_wp2_with fail
    rw [← hW] at HB' ⊢
    exact bodyPost_ret (v := .tuple #[.agg #[.int .u64 q0, .int .u64 q1, .int .u64 q2, .int .u64 q3], .int .i64 qe]) (by simp [results, Tryz.results7, go_sem, s0, s1, s2, s3]) rfl ⟨rfl, HB'⟩
set_option maxHeartbeats 1600000 in
theorem pr_plain (s : ByteArray) (x0 x1 e : Int) (w : World) (hl : LibVars w) (hp : PrVars w)
    (h17 : ∀ w, Calls Tryz.prog 17 #[.string s, .int .u8 47] w fun e w' => e = .returned (.int .i64 (-1)) ∧ w' = w) 
    (h17b : ∀ w, Calls Tryz.prog 17 #[.string s, .int .u8 45] w fun e w' => e = .returned (.int .i64 (-1)) ∧ w' = w)
    (h18 : ∀ w, LibVars w → PrVars w → Calls Tryz.prog 18 #[.string s] w fun e' w' => e' = .returned (.tuple #[.agg #[.int .u64 x0, .int .u64 x1], .int .i64 e]) ∧ Below w.heap.size w w') :
    Calls Tryz.prog 7 #[.string s] w fun e' w' => e' = .returned (.tuple #[.agg #[.int .u64 x0, .int .u64 x1, .int .u64 x0, .int .u64 x1], .int .i64 e]) ∧ Below w.heap.size w w' := by
  have H17 := Lib.hid h17
  have H17b := Lib.hid h17b
  have H18 := Lib.hid h18
  clear h17 h17b h18
  go_enter Tryz.func7, Tryz.ntmps7
  go_wp2_with fail
  refine (H17.out _).mono ?_
  rintro e' w' ⟨rfl, rfl⟩
  go_wp2_with fail
  refine (H17b.out _).mono ?_
  rintro e' w' ⟨rfl, rfl⟩
  go_wp2_with fail
  have hB0 := ba1 w (.cells #[.int .u64 0, .int .u64 0, .int .u64 0, .int .u64 0] 26)
  have hR0 := resR_new w 26
  refine (H18.out _ (hl.below hB0) (hp.below hB0)).mono ?_
  rintro e' w1 ⟨rfl, hb1⟩
  have hB1 := ba (bnext hB0 hb1) (.cells #[.int .u64 x0, .int .u64 x1] 24)
  have hR1 := (hR0.below hb1).below (ba1 w1 (.cells #[.int .u64 x0, .int .u64 x1] 24))
  obtain ⟨z0, z1⟩ := box2_new w1 x0 x1 24
  have hlt1 : w.heap.size + 1 ≤ w1.heap.size := by have := hb1.size; simpa using this
  clear hl hp hB0 hR0 hb1
  obtain ⟨W, hW, s0, s1, s2, s3⟩ := resR_set hR1 x0 x1 x0 x1
  have HB' := setBelow4 hB1 (Nat.le_refl w.heap.size) (.int .u64 x0) (.int .u64 x1) (.int .u64 x0) (.int .u64 x1)
  obtain ⟨c0, c1, c2, c3, f0, f1, f2, f3⟩ := hR1
  go_wp2_with fail
  try rw [← hW] at HB' ⊢
  exact bodyPost_ret (v := .tuple #[.agg #[.int .u64 x0, .int .u64 x1, .int .u64 x0, .int .u64 x1], .int .i64 e]) (by simp [results, Tryz.results7, go_sem, s0, s1, s2, s3]) rfl ⟨rfl, HB'⟩
end Go.Proofs.YtgbkeciimddpnaaGreatDoor.Ranges
