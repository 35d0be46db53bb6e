/-
The law AddrTexts's walk: any address is printed, and any text read, as the reference says: it returns true.
Conditions: the library's variables hold what they hold.
-/
import Derived.Test.YtgbkeciimddpnaaDoorAddrRq
import Derived.Test.YtgbkeciimddpnaaDoorWEqStruct
import Derived.Deep.RegionHeld3
namespace Go.Proofs.YtgbkeciimddpnaaDoor.Print
open Go Go.RowKit Go.Proofs.YtgbkeciimddpnaaDoorW.PrintWords Go.Proofs.YtgbkeciimddpnaaDoor.AddrP

theorem eqA25 (d : Nat) (w : World) (x0 y0 : Int) (x1 y1 : Int) :
    (Op.equalIn (d + 2) 25 (.agg #[.int .u64 x0, .int .u64 x1]) (.agg #[.int .u64 y0, .int .u64 y1])).run Tryd.prog w = .ok (x0 == y0 && (x1 == y1)) w := by
  refine eqA_of Tryd.underlying25 (by kernel_rfl) ?_
  refine eqf_cons (by rfl) (by go_simp; rfl) (by go_simp; rfl) (by go_simp) ?_
  exact eqf_last (by rfl) (by go_simp; rfl) (by go_simp; rfl) (by go_simp)
attribute [local go_sem high] eqA25

/-- What both readings hand back. -/
theorem parse_both (s : ByteArray) (hs : s.size < 4294967281) : ∃ q0 q1 ee : Int, (∀ w : World, LibVars w → PrVars w → Calls Tryd.prog 8 #[.string s] w fun e w' => e = .returned (.tuple #[.agg #[.int .u64 q0, .int .u64 q1], .int .i64 ee]) ∧ Below w.heap.size w w') ∧
    (∀ w : World, Calls Tryd.prog 12 #[.string s] w fun e w' => e = .returned (.tuple #[.agg #[.int .u64 q0, .int .u64 q1], .int .i64 ee]) ∧ Below w.heap.size w w') := by
  have h1 := fun w hl hp => parse_calls s w hs hl hp
  have h2 := fun w => refParse_calls s w
  unfold ParsePost at h1 h2
  cases hr : parseL s.data.toList with
  | none =>
    rw [hr] at h1 h2
    exact ⟨0, 0, 30, h1, h2⟩
  | some p =>
    rw [hr] at h1 h2
    exact ⟨p.1, p.2, 0, h1, h2⟩
theorem bounds_u64 {a : Int} (h : (Lit.int .u64 a).wf = true) : 0 ≤ a ∧ a ≤ 18446744073709551615 := by
  simp [Lit.wf, IntKind.min, IntKind.max, IntKind.bits, IntKind.signed] at h
  omega
theorem LibVars.lt {w : World} (h : LibVars w) : 3 < w.heap.size := by
  obtain ⟨⟨_, e, h1, _⟩, _⟩ := h
  exact lt_of_cell h1

set_option maxHeartbeats 800000 in
theorem texts_long (a0 a1 : Int) (s : ByteArray) (w : World) (hs : (4096 : Int) < (s.size : Int)) :
    Calls Tryd.prog 4 #[.agg #[.int .u64 a0, .int .u64 a1], .string s] w fun e w' => e = .returned (.bool true) ∧ Below w.heap.size w w' := by
  go_enter Tryd.func4, Tryd.ntmps4
  go_wp2_with fail
  go_ret
  exact ⟨rfl, ba1 _ _⟩
set_option maxRecDepth 100000 in
set_option maxHeartbeats 6400000 in
theorem texts_walk (a0 a1 q0 q1 ee : Int) (s T : ByteArray) (w : World) (hs : (s.size : Int) ≤ 4096) (hl : LibVars w) (hp : PrVars w)
    (h8 : ∀ w : World, LibVars w → PrVars w → Calls Tryd.prog 8 #[.string s] w fun e w' => e = .returned (.tuple #[.agg #[.int .u64 q0, .int .u64 q1], .int .i64 ee]) ∧ Below w.heap.size w w')
    (h12 : ∀ w : World, Calls Tryd.prog 12 #[.string s] w fun e w' => e = .returned (.tuple #[.agg #[.int .u64 q0, .int .u64 q1], .int .i64 ee]) ∧ Below w.heap.size w w')
    (h7 : ∀ w : World, PrVars w → Calls Tryd.prog 7 #[.agg #[.int .u64 a0, .int .u64 a1]] w fun e w' => e = .returned (.string T) ∧ Below w.heap.size w w')
    (h10 : ∀ w : World, Calls Tryd.prog 10 #[.agg #[.int .u64 a0, .int .u64 a1]] w fun e w' => e = .returned (.string T) ∧ Below w.heap.size w w') :
    Calls Tryd.prog 4 #[.agg #[.int .u64 a0, .int .u64 a1], .string s] w fun e w' => e = .returned (.bool true) ∧ Below w.heap.size w w' := by
  have HL := Lib.hid hl
  have HP := Lib.hid hp
  have H8 := Lib.hid h8
  have H12 := Lib.hid h12
  have H7 := Lib.hid h7
  have H10 := Lib.hid h10
  have hBa := ba1 w (.cells #[.int .u64 a0, .int .u64 a1] 25)
  have hXa := box2_new w a0 a1 25
  have hLa := hl.below hBa
  have hPa := hp.below hBa
  clear hl hp h8 h12 h7 h10
  go_enter Tryd.func4, Tryd.ntmps4
  go_wp2_with fail
  generalize w.alloc (.cells #[.int .u64 a0, .int .u64 a1] 25) = wa at hBa hXa hLa hPa ⊢
  refine (H8.out _ hLa hPa).mono ?_
  rintro e w1 ⟨rfl, hb1⟩
  have hB1 := ba (bnext hBa hb1) (.cells #[.int .u64 q0, .int .u64 q1] 25)
  have hX1 := (hXa.below hb1).below (ba1 w1 (.cells #[.int .u64 q0, .int .u64 q1] 25))
  have hY1 := box2_new w1 q0 q1 25
  have hlt1 : w.heap.size ≤ w1.heap.size := (bnext hBa hb1).size
  clear hb1 hXa hLa hPa hBa
  go_wp2_with fail
  generalize w1.heap.size = b1 at hY1 hlt1 ⊢
  generalize w1.alloc (.cells #[.int .u64 q0, .int .u64 q1] 25) = w2 at hB1 hX1 hY1 ⊢
  refine (H12.out _).mono ?_
  rintro e w3 ⟨rfl, hb3⟩
  have hB3 := ba (bnext hB1 hb3) (.cells #[.int .u64 q0, .int .u64 q1] 25)
  have hX3 := (hX1.below hb3).below (ba1 w3 (.cells #[.int .u64 q0, .int .u64 q1] 25))
  have hY3 := (hY1.below hb3).below (ba1 w3 (.cells #[.int .u64 q0, .int .u64 q1] 25))
  have hZ3 := box2_new w3 q0 q1 25
  have hlt3 : w.heap.size ≤ w3.heap.size := (bnext hB1 hb3).size
  clear hb3 hX1 hY1 hB1
  go_wp2_with fail
  generalize w3.heap.size = b3 at hZ3 hlt3 ⊢
  generalize w3.alloc (.cells #[.int .u64 q0, .int .u64 q1] 25) = w4 at hB3 hX3 hY3 hZ3 ⊢
  obtain ⟨x0, x1⟩ := hX3
  obtain ⟨y0, y1⟩ := hY3
  obtain ⟨z0, z1⟩ := hZ3
  go_region_held3 (fun w' => Below w.heap.size w w' ∧ w'.cell? ⟨w.heap.size, 0, none⟩ = some (.int .u64 a0) ∧ w'.cell? ⟨w.heap.size, 1, none⟩ = some (.int .u64 a1) ∧ w'.cell? ⟨b1, 0, none⟩ = some (.int .u64 q0) ∧ w'.cell? ⟨b1, 1, none⟩ = some (.int .u64 q1) ∧ w'.cell? ⟨b3, 0, none⟩ = some (.int .u64 q0) ∧ w'.cell? ⟨b3, 1, none⟩ = some (.int .u64 q1)) (first | ((repeat' apply And.intro) <;> first | (refine Below.drew ?_; assumption) | go_keep) | (go_split_ands; refine ⟨bnext (by assumption) (by assumption), ?_⟩; (repeat' apply And.intro) <;> (refine pw_cell_below (by assumption) ?_; assumption)))
    (first | (go_at_call 7; refine (H7.out _ (HP.out.below (And.left (by assumption)))).mono ?_; rintro e w' ⟨rfl, hb⟩) | (go_at_call 10; refine (H10.out _).mono ?_; rintro e w' ⟨rfl, hb⟩))
  go_wp2_with fail
  go_ret
  refine ⟨by simp, ?_⟩
  exact And.left (by assumption)
theorem addrTexts_true (a0 a1 : Int) (s : ByteArray) (w : World) (wa : (Lit.int .u64 a0).wf = true ∧ (Lit.int .u64 a1).wf = true) (hl : LibVars w) (hp : PrVars w) :
    Calls Tryd.prog 4 #[.agg #[.int .u64 a0, .int .u64 a1], .string s] w fun e w' => e = .returned (.bool true) ∧ Below w.heap.size w w' := by
  by_cases hs : s.size ≤ 4096
  · obtain ⟨b1, b2⟩ := bounds_u64 wa.1
    obtain ⟨b3, b4⟩ := bounds_u64 wa.2
    obtain ⟨hi, rfl⟩ := Int.eq_ofNat_of_zero_le b1
    obtain ⟨lo, rfl⟩ := Int.eq_ofNat_of_zero_le b3
    obtain ⟨q0, q1, ee, h8, h12⟩ := parse_both s (by omega)
    exact texts_walk hi lo q0 q1 ee s (mkB (prA hi lo)) w (by omega) hl hp h8 h12 (fun w hv => print_calls hi lo (by omega) (by omega) w hv) (fun w => refPrint_calls hi lo (by omega) (by omega) w)
  · exact texts_long a0 a1 s w (by omega)
/-- As the row takes it. -/
theorem addrTexts_card (a0 a1 : Int) (s : ByteArray) (w : World) (wa : (Lit.int .u64 a0).wf = true ∧ (Lit.int .u64 a1).wf = true) (_ : s.size ≤ 140737488351232) (hv : LibVars w ∧ PrVars w) :
    Calls Tryd.prog 4 #[.agg #[.int .u64 a0, .int .u64 a1], .string s] w fun e w' => e = .returned (.bool true) ∧ Below w.heap.size w w' := addrTexts_true a0 a1 s w wa hv.1 hv.2
end Go.Proofs.YtgbkeciimddpnaaDoor.Print
