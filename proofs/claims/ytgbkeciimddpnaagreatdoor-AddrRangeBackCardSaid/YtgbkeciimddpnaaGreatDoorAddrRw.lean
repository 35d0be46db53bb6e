/-
Ranges in text: what PrintRange comes to, the program's and the reference's.
Conditions: the library's tables hold what they hold; numbers of 64 bits.
-/
import Derived.Test.YtgbkeciimddpnaaGreatDoorAddrRv
namespace Go.Proofs.YtgbkeciimddpnaaGreatDoor.Ranges
open Go Go.RowKit Go.Proofs.YtgbkeciimddpnaaGreatDoorW.PrintWords Go.Proofs.YtgbkeciimddpnaaGreatDoor.Print Go.Proofs.YtgbkeciimddpnaaGreatDoor.AddrP
theorem xor_bound (a b : Int) (w0 : 0 ≤ a ∧ a ≤ top) (w1 : 0 ≤ b ∧ b ≤ top) : 0 ≤ Go.bits .xor .u64 a b ∧ Go.bits .xor .u64 a b ≤ 18446744073709551615 := by
  unfold top at w0 w1
  obtain ⟨m, rfl⟩ := Int.eq_ofNat_of_zero_le w0.1
  obtain ⟨n, rfl⟩ := Int.eq_ofNat_of_zero_le w1.1
  rw [u64_xor_nat m n (by omega) (by omega)]
  have h := Nat.xor_lt_two_pow (x := m) (y := n) (n := 64) (by omega) (by omega)
  omega
theorem lz_bound (a b : Int) (w0 : 0 ≤ a ∧ a ≤ top) (w1 : 0 ≤ b ∧ b ≤ top) : 0 ≤ lz a b ∧ lz a b ≤ 64 := by
  have h := xor_bound a b w0 w1
  have h2 := Lib.bitLen_le (Go.bits .xor .u64 a b).toNat 64 (by omega) (by omega)
  unfold lz
  omega
theorem lz_calls (a b : Int) (w0 : 0 ≤ a ∧ a ≤ top) (w1 : 0 ≤ b ∧ b ≤ top) (w : World) : Calls Tryz.prog 26 #[.int .u64 (Go.bits .xor .u64 a b)] w fun e' w' => e' = .returned (.int .i64 (lz a b)) ∧ w' = w := by
  have h := xor_bound a b w0 w1
  exact Tryz.bits_LeadingZeros64 _ w h.1 h.2
theorem cmp_swap (x0 x1 y0 y1 : Int) : (0 < cmpA x0 x1 y0 y1) ↔ (cmpA y0 y1 x0 x1 < 0) := by
  rcases cmpA_cases x0 x1 y0 y1 with ⟨a, b⟩ | ⟨a, a', b⟩ | ⟨a, b⟩ <;> rcases cmpA_cases y0 y1 x0 x1 with ⟨c, d⟩ | ⟨c, c', d⟩ | ⟨c, d⟩ <;> rw [b, d] <;> omega
theorem same_bound (f0 f1 t0 t1 : Int) (w0 : 0 ≤ f0 ∧ f0 ≤ top) (w1 : 0 ≤ f1 ∧ f1 ≤ top) (w2 : 0 ≤ t0 ∧ t0 ≤ top) (w3 : 0 ≤ t1 ∧ t1 ≤ top) : sameP f0 f1 t0 t1 ≤ 128 := by
  have h0 := lz_bound f0 t0 w0 w2
  have h1 := lz_bound f1 t1 w1 w3
  unfold sameP
  split <;> split <;> omega
theorem mkB_join (a b : List UInt8) (c : UInt8) : mkB (a ++ c :: b) = mkB a ++ ⟨#[c]⟩ ++ mkB b := by
  apply ByteArray.ext
  apply Array.toList_inj.mp
  simp [mkB]
theorem prA_at (a0 a1 : Int) (w0 : 0 ≤ a0 ∧ a0 ≤ top) (w1 : 0 ≤ a1 ∧ a1 ≤ top) :
    (∀ w, PrVars w → Calls Tryz.prog 25 #[.agg #[.int .u64 a0, .int .u64 a1]] w fun e' w' => e' = .returned (.string (mkB (prA a0.toNat a1.toNat))) ∧ Below w.heap.size w w') ∧
    (∀ w, Calls Tryz.prog 28 #[.agg #[.int .u64 a0, .int .u64 a1]] w fun e' w' => e' = .returned (.string (mkB (prA a0.toNat a1.toNat))) ∧ Below w.heap.size w w') := by
  unfold top at w0 w1
  obtain ⟨m, rfl⟩ := Int.eq_ofNat_of_zero_le w0.1
  obtain ⟨n, rfl⟩ := Int.eq_ofNat_of_zero_le w1.1
  exact ⟨fun w h => print_calls m n (by omega) (by omega) w h, fun w => refPrint_calls m n (by omega) (by omega) w⟩
theorem five (x0 x1 x2 x3 x4 f0 f1 t0 t1 : Int) : (x0, x1, x2, x3, x4) = (f0, f1, t0, t1, (0 : Int)) ↔ ((x4 == 0) = true ∧ ((x0 == f0 && (x1 == f1)) && (x2 == t0 && (x3 == t1))) = true) := by
  simp only [Prod.mk.injEq, beq_iff_eq, Bool.and_eq_true]
  constructor
  · rintro ⟨a, b, c, d, e⟩; exact ⟨e, ⟨a, b⟩, c, d⟩
  · rintro ⟨e, ⟨a, b⟩, c, d⟩; exact ⟨a, b, c, d, e⟩
theorem printRg_both (f0 f1 t0 t1 : Int) (w0 : 0 ≤ f0 ∧ f0 ≤ top) (w1 : 0 ≤ f1 ∧ f1 ≤ top) (w2 : 0 ≤ t0 ∧ t0 ≤ top) (w3 : 0 ≤ t1 ∧ t1 ≤ top) :
    (∀ w, PrVars w → Calls Tryz.prog 9 #[.agg #[.int .u64 f0, .int .u64 f1, .int .u64 t0, .int .u64 t1]] w fun e' w' => e' = .returned (.tuple #[.string (mkB (printRg f0 f1 t0 t1).1), .int .i64 (printRg f0 f1 t0 t1).2]) ∧ Below w.heap.size w w') ∧
    (∀ w, Calls Tryz.prog 10 #[.agg #[.int .u64 f0, .int .u64 f1, .int .u64 t0, .int .u64 t1]] w fun e' w' => e' = .returned (.tuple #[.string (mkB (printRg f0 f1 t0 t1).1), .int .i64 (printRg f0 f1 t0 t1).2]) ∧ Below w.heap.size w w') := by
  obtain ⟨pf, rf⟩ := prA_at f0 f1 w0 w1
  obtain ⟨pt, rt⟩ := prA_at t0 t1 w2 w3
  have lf := prA_len f0.toNat f1.toNat
  have lt := prA_len t0.toNat t1.toNat
  have hsw := cmp_swap f0 f1 t0 t1
  unfold printRg
  by_cases c1 : 0 < cmpA f0 f1 t0 t1 ∨ is4 f0 f1 ≠ is4 t0 t1
  · rw [if_pos c1]
    have hne : is4 f0 f1 ≠ is4 t0 t1 → is4 f0 f1 = !is4 t0 t1 := by cases is4 f0 f1 <;> cases is4 t0 t1 <;> simp
    constructor
    · intro w _
      refine pr_refused f0 f1 t0 t1 _ _ _ w (Lib.hid ?_) (compare_calls f0 f1 t0 t1) (is4_calls f0 f1) (is4_calls t0 t1)
      by_cases c : 0 < cmpA f0 f1 t0 t1
      · exact .inl c
      · exact .inr ⟨c, hne (c1.resolve_left c)⟩
    · intro w
      refine rpr_refused f0 f1 t0 t1 (decide (cmpA t0 t1 f0 f1 < 0)) _ _ w (Lib.hid ?_) (refLess_val t0 t1 f0 f1 _ (Lib.hid rfl)) (refIs4_calls f0 f1) (refIs4_calls t0 t1)
      by_cases c : 0 < cmpA f0 f1 t0 t1
      · exact .inl (decide_eq_true (hsw.mp c))
      · exact .inr ⟨decide_eq_false (fun x => c (hsw.mpr x)), hne (c1.resolve_left c)⟩
  · rw [if_neg c1]
    have hv : ¬ 0 < cmpA f0 f1 t0 t1 := fun x => c1 (.inl x)
    have hv2 : decide (cmpA t0 t1 f0 f1 < 0) = false := decide_eq_false (fun x => hv (hsw.mpr x))
    have hi : is4 f0 f1 = is4 t0 t1 := Decidable.of_not_not (fun x => c1 (.inr x))
    have i1 := is4_calls t0 t1
    have i2 := refIs4_calls t0 t1
    rw [← hi] at i1 i2
    by_cases c2 : f0 = t0 ∧ f1 = t1
    · rw [if_pos c2]
      exact ⟨fun w hp => pr_same f0 f1 t0 t1 _ _ _ w hv c2.1 c2.2 hp pf (compare_calls f0 f1 t0 t1) (is4_calls f0 f1) i1,
        fun w => rpr_same f0 f1 t0 t1 _ _ w c2.1 c2.2 rf (refLess_val t0 t1 f0 f1 _ (Lib.hid hv2)) (refIs4_calls f0 f1) i2⟩
    · rw [if_neg c2]
      have he : ((f0 == t0) && (f1 == t1)) = false := by
        cases h : ((f0 == t0) && (f1 == t1))
        · rfl
        · rw [Bool.and_eq_true, beq_iff_eq, beq_iff_eq] at h
          exact absurd h c2
      have hsb := same_bound f0 f1 t0 t1 w0 w1 w2 w3
      have hsm : sameP f0 f1 t0 t1 = (if (lz f0 t0 == 64) = true then lz f0 t0 + lz f1 t1 else lz f0 t0) - (if is4 f0 f1 = true then 96 else 0) := by
        unfold sameP
        simp only [beq_iff_eq]
      have his : ∀ n, prefP f0 f1 n = (f0, f1, t0, t1, 0) → sameP f0 f1 t0 t1 = n := fun n h => same_is f0 f1 t0 t1 n w0 w1 h
      generalize sameP f0 f1 t0 t1 = sm at hsb hsm his ⊢
      have hlu : (mkB (digs 10 sm.toNat)).size ≤ 64 := by
        have := digs_len (b := 10) (by omega) 3 sm.toNat (by omega)
        rw [mkB_size]; omega
      have hsz : (mkB (prA f0.toNat f1.toNat)).size ≤ 64 ∧ (mkB (prA t0.toNat t1.toNat)).size ≤ 64 ∧ (mkB (digs 10 sm.toNat)).size ≤ 64 := ⟨by rw [mkB_size]; exact lf, by rw [mkB_size]; exact lt, hlu⟩
      obtain ⟨r0, r1, r2, r3, re, hr⟩ : ∃ r0 r1 r2 r3 re, prefP f0 f1 sm = (r0, r1, r2, r3, re) := ⟨_, _, _, _, _, rfl⟩
      have h5 := five r0 r1 r2 r3 re f0 f1 t0 t1
      rw [← hr] at h5
      have hlt : (re == 0) = true → 0 ≤ sm := by
        intro h
        rcases prefP_cases f0 f1 sm with e | ⟨n0, _⟩
        · rw [hr] at e
          cases e
          cases h
        · exact n0
      have hP : ∀ R, ((prefP f0 f1 sm = (f0, f1, t0, t1, 0) ∧ R = mkB (prA f0.toNat f1.toNat) ++ ⟨#[47]⟩ ++ mkB (digs 10 sm.toNat)) ∨ (¬ prefP f0 f1 sm = (f0, f1, t0, t1, 0) ∧ R = mkB (prA f0.toNat f1.toNat) ++ ⟨#[45]⟩ ++ mkB (prA t0.toNat t1.toNat))) →
          (∀ w, PrVars w → Calls Tryz.prog 9 #[.agg #[.int .u64 f0, .int .u64 f1, .int .u64 t0, .int .u64 t1]] w fun e' w' => e' = .returned (.tuple #[.string R, .int .i64 0]) ∧ Below w.heap.size w w') ∧
          (∀ w, Calls Tryz.prog 10 #[.agg #[.int .u64 f0, .int .u64 f1, .int .u64 t0, .int .u64 t1]] w fun e' w' => e' = .returned (.tuple #[.string R, .int .i64 0]) ∧ Below w.heap.size w w') := by
        intro R hR
        constructor
        · intro w hp
          refine pr_diff f0 f1 t0 t1 _ (lz f0 t0) (lz f1 t1) sm r0 r1 r2 r3 re (is4 f0 f1) _ _ _ R w hv he hp hsz (Lib.hid ?_) (lz_calls f0 t0 w0 w2) (lz_calls f1 t1 w1 w3) hsm
            (fun n w hn => prefix_val f0 f1 n _ _ _ _ _ w0 w1 (Lib.hid (by rw [hn]; exact hr)) w) (fun n w hn hz hp => ?_) (lz_bound f0 t0 w0 w2) (lz_bound f1 t1 w1 w3) pf pt (compare_calls f0 f1 t0 t1) (is4_calls f0 f1) i1
          · rcases hR with ⟨h, e⟩ | ⟨h, e⟩
            · exact .inl ⟨(h5.mp h).1, (h5.mp h).2, e⟩
            · cases ha : (re == 0)
              · exact .inr (.inl ⟨rfl, e⟩)
              · cases hb : ((r0 == f0 && (r1 == f1)) && (r2 == t0 && (r3 == t1)))
                · exact .inr (.inr ⟨rfl, rfl, e⟩)
                · exact absurd (h5.mpr ⟨ha, hb⟩) h
          · have h0 := hlt hz
            have hn2 : n = ((sm.toNat : Nat) : Int) := by omega
            rw [hn2]
            exact itoa_calls sm.toNat (by omega) w hp
        · intro w
          have hno : ∀ m : Nat, (∀ n : Nat, n < m → ¬ ((n : Int) = sm ∧ prefP f0 f1 sm = (f0, f1, t0, t1, 0))) → ∀ n : Nat, n < m → ¬ (((prefP f0 f1 n).2.2.2.2 == 0) = true ∧ (((prefP f0 f1 n).1 == f0 && ((prefP f0 f1 n).2.1 == f1)) && ((prefP f0 f1 n).2.2.1 == t0 && ((prefP f0 f1 n).2.2.2.1 == t1))) = true) := by
            intro m hm n hn hx
            have h := (five _ _ _ _ _ f0 f1 t0 t1).mpr hx
            have e := his n h
            refine hm n hn ⟨e.symm, ?_⟩
            rw [e]
            exact h
          have go := fun (m : Nat) hm hyes h29 => rpr_diff f0 f1 t0 t1 (is4 f0 f1) (fun n => prefP f0 f1 n) m (mkB (prA f0.toNat f1.toNat)) (mkB (prA t0.toNat t1.toNat)) (mkB (digs 10 sm.toNat)) R w he hsz (fun n w _ => refPrefix_val f0 f1 n _ _ _ _ _ w0 w1 (Lib.hid rfl) w) (hno m hm) hyes h29 rf rt (refLess_val t0 t1 f0 f1 _ (Lib.hid hv2)) (refIs4_calls f0 f1) i2
          rcases hR with ⟨h, e⟩ | ⟨h, e⟩
          · have h0 := hlt (h5.mp h).1
            have hn2 : ((sm.toNat : Nat) : Int) = sm := by omega
            refine go sm.toNat (fun n hn hx => by have := hx.1; omega) (.inl ⟨by omega, e, ?_⟩) (fun w _ => digits_calls sm.toNat 10 (by omega) (by omega) (by omega) w)
            have h6 := h5.mp h
            rw [hn2, hr]
            exact h6
          · exact go 129 (fun n hn hx => h hx.2) (.inr ⟨rfl, e⟩) (fun w hm => absurd hm (by omega))
      by_cases c3 : prefP f0 f1 sm = (f0, f1, t0, t1, 0)
      · rw [if_pos c3]
        simp only []
        rw [mkB_join]
        exact hP _ (.inl ⟨c3, rfl⟩)
      · rw [if_neg c3]
        simp only []
        rw [mkB_join]
        exact hP _ (.inr ⟨c3, rfl⟩)
end Go.Proofs.YtgbkeciimddpnaaGreatDoor.Ranges
