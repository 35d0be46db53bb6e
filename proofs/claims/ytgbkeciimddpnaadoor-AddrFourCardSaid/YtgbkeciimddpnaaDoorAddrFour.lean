/-
The law AddrFour's walk: an IPv4 address is told by its four bytes: it returns true.
Conditions: the library's variables hold what they hold.
-/
import Derived.Test.YtgbkeciimddpnaaDoorAddrBack
namespace Go.Proofs.YtgbkeciimddpnaaDoor.Print
open Go Go.RowKit Go.Proofs.YtgbkeciimddpnaaDoorW.PrintWords Go.Proofs.YtgbkeciimddpnaaDoor.AddrP
attribute [local go_sem high] eqA25

theorem count_digs (n : Nat) : (digs 10 n).count 46 = 0 := List.count_eq_zero.2 fun h => (digs_no (by omega) (by omega) n _ h).2.1 rfl
theorem count_pr4 (n : Nat) : (pr4 n).count 46 = 3 := by
  unfold pr4 four
  simp [Lib.join, List.count_append, count_digs]
theorem count_take_succ {l : List UInt8} {k : Nat} {c : UInt8} (h : l[k]? = some c) : (l.take (k + 1)).count 46 = (l.take k).count 46 + if c = 46 then 1 else 0 := by
  rw [List.take_add_one, h]
  simp [List.count_append, List.count_cons]
theorem four_prA (n : Nat) (h : n ≤ 4294967295) : prA 0 (281470681743360 + n) = pr4 (281470681743360 + n) := by
  unfold prA isFour
  rw [if_pos (by simp; omega)]
theorem len_size (T : ByteArray) : T.data.toList.length = T.size := Array.length_toList
set_option maxRecDepth 100000 in
set_option maxHeartbeats 6400000 in
theorem four_walk (n : Nat) (a1 : Int) (T : ByteArray) (w : World) (hs : T.size ≤ 4096) (hc : T.data.toList.count 46 = 3) (hl : LibVars w) (hp : PrVars w)
    (h6 : ∀ w : World, Calls Tryd.prog 6 #[.int .u32 n] w fun e w' => e = .returned (.agg #[.int .u64 0, .int .u64 a1]) ∧ Below w.heap.size w w')
    (h7 : ∀ w : World, PrVars w → Calls Tryd.prog 7 #[.agg #[.int .u64 0, .int .u64 a1]] w fun e w' => e = .returned (.string T) ∧ Below w.heap.size w w')
    (h8 : ∀ w : World, LibVars w → PrVars w → Calls Tryd.prog 8 #[.string T] w fun e w' => e = .returned (.tuple #[.agg #[.int .u64 0, .int .u64 a1], .int .i64 0]) ∧ Below w.heap.size w w')
    (h9 : ∀ w : World, Calls Tryd.prog 9 #[.agg #[.int .u64 0, .int .u64 a1]] w fun e w' => e = .returned (.bool true) ∧ Below w.heap.size w w')
    (h11 : ∀ w : World, Calls Tryd.prog 11 #[.int .u32 n] w fun e w' => e = .returned (.agg #[.int .u64 0, .int .u64 a1]) ∧ Below w.heap.size w w')
    (h10 : ∀ w : World, Calls Tryd.prog 10 #[.agg #[.int .u64 0, .int .u64 a1]] w fun e w' => e = .returned (.string T) ∧ Below w.heap.size w w') :
    Calls Tryd.prog 3 #[.int .u32 n] w fun e w' => e = .returned (.bool true) ∧ Below w.heap.size w w' := by
  have H8 := Lib.hid h8
  have H6 := Lib.hid h6
  have H7 := Lib.hid h7
  have H9 := Lib.hid h9
  have H10 := Lib.hid h10
  have H11 := Lib.hid h11
  have HC := Lib.hid hc
  clear h6 h7 h8 h9 h10 h11 hc
  go_enter Tryd.func3, Tryd.ntmps3
  go_wp2_with fail
  refine (H6.out _).mono ?_
  rintro e w1 ⟨rfl, hb1⟩
  have hb2 := hb1.trans ((ba1 w1 (.cells #[.int .u64 0, .int .u64 a1] 25)).mono hb1.size)
  have hlt1 := hb1.size
  have hL2 := hl.below hb2
  have hP2 := hp.below hb2
  obtain ⟨x0, x1⟩ := box2_new w1 0 a1 25
  clear hl hp hb1
  go_wp2_with fail
  generalize w1.heap.size = b1 at x0 x1 hlt1 ⊢
  generalize w1.alloc (.cells #[.int .u64 0, .int .u64 a1] 25) = w2 at x0 x1 hL2 hP2 hb2 ⊢
  refine (H7.out _ hP2).mono ?_
  rintro e w3 ⟨rfl, hb3⟩
  have hB3 := bnext hb2 hb3
  have hX3 := (Box2.mk x0 x1).below hb3
  have hL3 := hL2.below hb3
  have hP3 := hP2.below hb3
  clear hL2 hP2 hb2 hb3 x0 x1
  go_wp2_with fail
  refine (H8.out _ hL3 hP3).mono ?_
  rintro e w4 ⟨rfl, hb4⟩
  have hB4 := ba (bnext hB3 hb4) (.cells #[.int .u64 0, .int .u64 a1] 25)
  have hb5 := hb4.trans ((ba1 w4 (.cells #[.int .u64 0, .int .u64 a1] 25)).mono hb4.size)
  have hlt4 := (bnext hB3 hb4).size
  obtain ⟨x0, x1⟩ := hX3.below hb5
  obtain ⟨y0, y1⟩ := box2_new w4 0 a1 25
  clear hb4 hb5 hX3 hB3 hL3 hP3
  go_wp2_with fail
  generalize w4.heap.size = b4 at y0 y1 hlt4 ⊢
  generalize w4.alloc (.cells #[.int .u64 0, .int .u64 a1] 25) = w5 at hB4 x0 x1 y0 y1 ⊢
  go_loopw [7, 8] (fun d i wr => ∃ k : Nat, k ≤ T.size ∧ i = .int .i64 k ∧ d = .int .i64 ((T.data.toList.take k).count 46 : Nat) ∧ wr = w5) (fun _ i _ => T.size - (intOf i).toNat)
  case atStart => exact ⟨0, by omega, rfl, rfl, rfl⟩
  case round =>
    obtain ⟨k, hk, rfl, rfl, rfl⟩ := hrel
    have hd : (T.data.toList.take k).count 46 ≤ 4096 := by
      have := List.count_le_length (a := (46 : UInt8)) (l := T.data.toList.take k)
      have h2 := len_size T
      rw [List.length_take] at this
      omega
    by_cases hlt : k < T.size
    · have hlen : k < T.data.toList.length := by rw [len_size]; exact hlt
      have hct : (T.data.toList.take (k + 1)).count 46 = (T.data.toList.take k).count 46 + if T[k] = 46 then 1 else 0 := count_take_succ (List.getElem?_eq_getElem hlen)
      have hct := Lib.hid hct
      have hcn : ∀ d : Nat, d ≤ 4096 → IntKind.i64.wrap ((d : Int) + 1) = ((d + 1 : Nat) : Int) := fun d h => by rw [IntWalk.i64_in _ (by omega)]; omega
      generalize (T.data.toList.take k).count 46 = d at hd hct ⊢
      go_wp2_with fail
      all_goals refine ⟨⟨k + 1, by omega, by rfl, ?_, trivial⟩, by simp [intOf]; omega⟩
      · rename_i hc
        have hc' : T[k] = 46 := UInt8.toNat_inj.mp (by have := (beq_iff_eq.mp hc); exact Int.ofNat.inj this)
        have h := hct.out
        rw [if_pos hc'] at h
        rw [h]
        rfl
      · rename_i hc
        have hc' : ¬ T[k] = 46 := fun e => by rw [e] at hc; exact absurd hc (by decide)
        have h := hct.out
        rw [if_neg hc'] at h
        rw [h]
        rfl
    · obtain rfl : k = T.size := by omega
      have hfull : (T.data.toList.take T.size).count 46 = 3 := by
        rw [List.take_of_length_le (by rw [len_size]; exact Nat.le_refl _), HC.out]
      rw [hfull]
      go_wp2_with fail
      refine (H9.out _).mono ?_
      rintro e w6 ⟨rfl, hb6⟩
      have hB6 := bnext hB4 hb6
      obtain ⟨x0, x1⟩ := (Box2.mk x0 x1).below hb6
      obtain ⟨y0, y1⟩ := (Box2.mk y0 y1).below hb6
      clear hb6 hB4
      go_wp2_with fail
      refine (H11.out _).mono ?_
      rintro e w7 ⟨rfl, hb7⟩
      have hB7 := bnext hB6 hb7
      clear hb7 hB6
      go_wp2_with fail
      refine (H10.out _).mono ?_
      rintro e w8 ⟨rfl, hb8⟩
      have hB8 := bnext hB7 hb8
      clear hb8 hB7
      go_wp2_with fail
      go_ret
      exact ⟨rfl, hB8⟩
theorem addrFour_true (a : Int) (w : World) (wa : (Lit.int .u32 a).wf = true) (hl : LibVars w) (hp : PrVars w) :
    Calls Tryd.prog 3 #[.int .u32 a] w fun e w' => e = .returned (.bool true) ∧ Below w.heap.size w w' := by
  have hb : 0 ≤ a ∧ a ≤ 4294967295 := by
    simp [Lit.wf, IntKind.min, IntKind.max, IntKind.bits, IntKind.signed] at wa
    omega
  obtain ⟨b1, b2⟩ := hb
  obtain ⟨n, rfl⟩ := Int.eq_ofNat_of_zero_le b1
  have hn : n ≤ 4294967295 := by omega
  have hpr := four_prA n hn
  have hlen := prA_len 0 (281470681743360 + n)
  refine four_walk n _ (mkB (prA 0 (281470681743360 + n))) w (by simp [mkB, ByteArray.size]; omega) (by rw [hpr]; simp [mkB, count_pr4]) hl hp (fun w => of4_calls n hn w) (fun w hv => print_calls 0 (281470681743360 + n) (by omega) (by omega) w hv) (fun w hl hp => print_again 0 (281470681743360 + n) (by omega) (by omega) w hl hp) (fun w => ?_) (fun w => ?_) (fun w => refPrint_calls 0 (281470681743360 + n) (by omega) (by omega) w)
  · exact addr_Is4.calls 0 _ true w (by unfold addr_Is4.f; rw [if_pos rfl]; simp; omega)
  · exact sallyportref03_Of4.calls n _ _ w (by unfold sallyportref03_Of4.f; rw [IntWalk.u64_in (n : Int) (by omega), IntWalk.u64_in _ (by omega)]; rfl)
/-- As the row takes it. -/
theorem addrFour_card (a : Int) (w : World) (wa : (Lit.int .u32 a).wf = true) (hv : LibVars w ∧ PrVars w) :
    Calls Tryd.prog 3 #[.int .u32 a] w fun e w' => e = .returned (.bool true) ∧ Below w.heap.size w w' := addrFour_true a w wa hv.1 hv.2
end Go.Proofs.YtgbkeciimddpnaaDoor.Print
