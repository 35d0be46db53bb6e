/-
The walk of addr.quads: four words, as an IPv4 address.
Conditions: the words lie in memory.
-/
import Derived.Test.YtgbkeciimddpnaaGreatDoorAddrN
import Derived.Test.YtgbkeciimddpnaaGreatDoorPrint6
import Derived.LoopTactic
import Derived.BigRegion
import Derived.Laws.BitsAllLaws
namespace Go.Proofs.YtgbkeciimddpnaaGreatDoor.Print
open Go Go.RowKit Go.Proofs.YtgbkeciimddpnaaGreatDoor.AddrP

/-- A result of two numbers that lies in memory, still noughts. -/
structure ResA (b : Nat) (w : World) : Prop where
  c0 : w.cell? ⟨b, 0, none⟩ = some (.int .u64 0)
  c1 : w.cell? ⟨b, 1, none⟩ = some (.int .u64 0)
  f0 : w.frozen? ⟨b, 0, none⟩ = false
  f1 : w.frozen? ⟨b, 1, none⟩ = false
theorem ResA.below {b : Nat} {w w' : World} (h : ResA b w) (hb : Below w.heap.size w w') : ResA b w' := by
  have hlt := lt_of_cell h.c0
  obtain ⟨c, f⟩ := bcell hb
  exact ⟨(c _ _ hlt).trans h.c0, (c _ _ hlt).trans h.c1, (f _ _ hlt).trans h.f0, (f _ _ hlt).trans h.f1⟩
theorem resA_new (w : World) (T : TypeId) : ResA w.heap.size (w.alloc (.cells #[.int .u64 0, .int .u64 0] T)) := by
  refine ⟨?_, ?_, ?_, ?_⟩ <;> go_simp
theorem resA_set {b : Nat} {w : World} (h : ResA b w) (x y : Int) : ((w.setCell ⟨b, 0, none⟩ (.int .u64 x)).setCell ⟨b, 1, none⟩ (.int .u64 y)).cell? ⟨b, 0, none⟩ = some (.int .u64 x) ∧ ((w.setCell ⟨b, 0, none⟩ (.int .u64 x)).setCell ⟨b, 1, none⟩ (.int .u64 y)).cell? ⟨b, 1, none⟩ = some (.int .u64 y) := by
  obtain ⟨h1, h2, h3, h4⟩ := h
  constructor <;> go_simp
theorem or_byte (a x : Int) (h0 : 0 ≤ a) (h1 : a ≤ 16777215) (x0 : 0 ≤ x) (x1 : x ≤ 255) : bits BinOp.or IntKind.i64 (a * 256) x = a * 256 + x := by
  have e : a * 256 + x = a * 256 + x := rfl
  have := bits_join .i64 63 (by decide) (fun n k0 k1 => IntWalk.i64_in n (by omega)) 8 (a * 256) x (by omega) (by omega) (by omega) x0 (by omega) (by omega)
  simpa using this
theorem of4_sum (n : Int) (h0 : 0 ≤ n) (h1 : n ≤ 4294967295) : bits BinOp.or IntKind.u64 281470681743360 (IntKind.u64.wrap n) = 281470681743360 + n := by
  rw [IntWalk.u64_in _ (by omega)]
  have := bits_join .u64 64 (by decide) (fun n k0 k1 => IntWalk.u64_in n (by omega)) 32 281470681743360 n (by omega) (by omega) (by omega) h0 (by omega) (by omega)
  simpa using this
theorem of4_calls (n : Nat) (h : n ≤ 4294967295) (w : World) : Calls Tryz.prog 70 #[.int .u32 n] w fun e w' => e = .returned (.agg #[.int .u64 0, .int .u64 ((281470681743360 + n : Nat) : Int)]) ∧ Below w.heap.size w w' :=
  addr_Of4.calls n _ _ w (by unfold addr_Of4.f; rw [of4_sum _ (by omega) (by omega)]; rfl)

/-- What quads and read hand back. -/
def AddrPost (r : Option (Nat × Nat)) (w : World) (e : Ending) (w' : World) : Prop := (match r with
  | some p => e = .returned (.tuple #[.agg #[.int .u64 p.1, .int .u64 p.2], .bool true])
  | none => e = .returned (.tuple #[.agg #[.int .u64 0, .int .u64 0], .bool false])) ∧ Below w.heap.size w w'
theorem quadsFrom_cons (n : Nat) (x : List UInt8) (r : List (List UInt8)) : quadsFrom n (x :: r) = match numL x with
    | none => none
    | some v => if 255 < v then none else quadsFrom (n * 256 + v) r := rfl

set_option maxHeartbeats 3200000 in
theorem quads_calls (bk o c : Nat) (l : List ByteArray) (hl : l.length = 4) (hsz : ∀ x ∈ l, x.size ≤ 9223372036854775807) (w : World) (hc : ∀ (j : Nat) x, l[j]? = some x → w.cell? ⟨bk, o + j, none⟩ = some (.string x)) :
    Calls Tryz.prog 47 #[.slice (some ⟨bk, o, none⟩) 4 c] w (AddrPost ((quadsFrom 0 (l.map (·.data.toList))).map fun n => (0, 281470681743360 + n)) w) := by
  have hbk : bk < w.heap.size := lt_of_cell (hc 0 _ (List.getElem?_eq_getElem (by omega)))
  have HC := Lib.hid hc
  have HSZ := Lib.hid hsz
  clear hc hsz
  obtain ⟨L, hL⟩ : ∃ L, L = l.map (·.data.toList) := ⟨_, rfl⟩
  have HL := Lib.hid hL
  rw [← hL]
  clear hL
  go_enter Tryz.func47, Tryz.ntmps47
  go_wp2_with fail
  go_loopw [4, 11] (fun n i wr => ∃ (k m : Nat), k ≤ 4 ∧ n = .int .i64 m ∧ i = .int .i64 k ∧ Hid (quadsFrom 0 L = quadsFrom m (L.drop k) ∧ m < 256 ^ k) ∧ ResA w.heap.size wr ∧ Below w.heap.size w wr) (fun _ i _ => 4 - (intOf i).toNat)
  case atStart => exact ⟨0, 0, by omega, rfl, rfl, Lib.hid ⟨rfl, by simp⟩, resA_new _ _, ba1 _ _⟩
  case round =>
    obtain ⟨k, m, hk, rfl, rfl, hq, hR, hB⟩ := hrel
    by_cases hlt : k < 4
    · obtain ⟨x, hx⟩ : ∃ x, l[k]? = some x := ⟨_, List.getElem?_eq_getElem (by omega)⟩
      have hcell : wr.cell? ⟨bk, o + k, none⟩ = some (.string x) := (hB.cell (p := ⟨bk, o + k, none⟩) hbk).trans (HC.out k x hx)
      have hnum := number_calls x (HSZ.out x (List.mem_of_getElem? hx)) 
      have hdrop : L.drop k = x.data.toList :: L.drop (k + 1) := by
        rw [HL.out, List.drop_eq_getElem_cons (by simp; omega)]
        congr 1
        rw [List.getElem_map]
        rw [List.getElem?_eq_getElem (by omega)] at hx
        rw [Option.some.inj hx]
      have hm : m ≤ 16777215 := by
        have h1 := hq.out.2
        have h2 : 256 ^ k ≤ 256 ^ 3 := Nat.pow_le_pow_right (by omega) (by omega)
        have h3 : (256 : Nat) ^ 3 = 16777216 := by decide
        omega
      have hqq := hq.out.1
      rw [hdrop, quadsFrom_cons] at hqq
      unfold NumPost at hnum
      cases hv : numL x.data.toList with
      | none =>
        rw [hv] at hnum hqq
        simp only at hnum hqq
        have HN := Lib.hid hnum
        have HQ := Lib.hid hqq
        clear hnum hqq hv hdrop hx hq
        go_wp2_with (go_at_call 19; refine (HN.out _).mono ?_; rintro e w1 ⟨rfl, hb⟩; have hR1 := hR.below hb; obtain ⟨r0, r1, r2, r3⟩ := hR1)
        obtain ⟨s0, s1⟩ := resA_set (hR.below hb) 0 0
        have HB' := ((bnext hB hb).setCell (p := ⟨w.heap.size, 0, none⟩) (Nat.le_refl _) (.int .u64 0)).setCell (p := ⟨w.heap.size, 1, none⟩) (Nat.le_refl _) (.int .u64 0)
        generalize (w1.setCell ⟨w.heap.size, 0, none⟩ (.int .u64 0)).setCell ⟨w.heap.size, 1, none⟩ (.int .u64 0) = W at s0 s1 HB' ⊢
        refine bodyPost_ret (v := .tuple #[.agg #[.int .u64 0, .int .u64 0], .bool false]) (by simp [results, Tryz.results47, go_sem, s0, s1]) rfl ?_
        rw [HQ.out]
        exact ⟨rfl, HB'⟩
      | some v =>
        rw [hv] at hnum hqq
        simp only at hnum hqq
        have HN := Lib.hid hnum
        by_cases hv255 : 255 < v
        · rw [if_pos hv255] at hqq
          have HQ := Lib.hid hqq
          clear hnum hqq hv hdrop hx hq
          go_wp2_with (go_at_call 19; refine (HN.out _).mono ?_; rintro e w1 ⟨rfl, hb⟩; have hR1 := hR.below hb; obtain ⟨r0, r1, r2, r3⟩ := hR1)
          obtain ⟨s0, s1⟩ := resA_set (hR.below hb) 0 0
          have HB' := ((bnext hB hb).setCell (p := ⟨w.heap.size, 0, none⟩) (Nat.le_refl _) (.int .u64 0)).setCell (p := ⟨w.heap.size, 1, none⟩) (Nat.le_refl _) (.int .u64 0)
          generalize (w1.setCell ⟨w.heap.size, 0, none⟩ (.int .u64 0)).setCell ⟨w.heap.size, 1, none⟩ (.int .u64 0) = W at s0 s1 HB' ⊢
          refine bodyPost_ret (v := .tuple #[.agg #[.int .u64 0, .int .u64 0], .bool false]) (by simp [results, Tryz.results47, go_sem, s0, s1]) rfl ?_
          rw [HQ.out]
          exact ⟨rfl, HB'⟩
        · rw [if_neg hv255] at hqq
          have ho := or_byte (m : Int) (v : Int) (by omega) (by omega) (by omega) (by omega)
          have HQ : Hid (quadsFrom 0 L = quadsFrom (m * 256 + v) (L.drop (k + 1)) ∧ m * 256 + v < 256 ^ (k + 1)) := Lib.hid ⟨hqq, by rw [Nat.pow_succ]; have := hq.out.2; omega⟩
          have hv255' : v ≤ 255 := by omega
          clear hnum hqq hv hdrop hx hq hv255
          go_wp2_with (go_at_call 19; refine (HN.out _).mono ?_; rintro e w1 ⟨rfl, hb⟩)
          go_roundw
          case rel => exact ⟨k + 1, m * 256 + v, by omega, by go_num, by go_num, HQ, hR.below hb, bnext hB hb⟩
          case measure => simp [intOf]; omega
    · obtain rfl : k = 4 := by omega
      have hm : m ≤ 4294967295 := by
        have h1 := hq.out.2
        have h3 : (256 : Nat) ^ 4 = 4294967296 := by decide
        omega
      have hqq : quadsFrom 0 L = some m := by
        rw [hq.out.1, List.drop_eq_nil_of_le (by rw [HL.out]; simp [hl])]
        rfl
      have HQ := Lib.hid hqq
      have hcv : IntKind.u32.wrap (m : Int) = (m : Int) := IntWalk.u32_in _ (by omega)
      obtain ⟨q, hqe⟩ : ∃ q : Int, ((281470681743360 + m : Nat) : Int) = q := ⟨_, rfl⟩
      have h4 := of4_calls m hm
      rw [hqe] at h4
      have H4 := Lib.hid h4
      have HE := Lib.hid hqe
      clear hqq hq h4 hqe
      go_wp2_with (go_at_call 70; refine (H4.out _).mono ?_; rintro e w1 ⟨rfl, hb⟩; have hR1 := hR.below hb; obtain ⟨r0, r1, r2, r3⟩ := hR1)
      obtain ⟨s0, s1⟩ := resA_set (hR.below hb) 0 q
      have HB' := ((bnext hB hb).setCell (p := ⟨w.heap.size, 0, none⟩) (Nat.le_refl _) (.int .u64 0)).setCell (p := ⟨w.heap.size, 1, none⟩) (Nat.le_refl _) (.int .u64 q)
      generalize (w1.setCell ⟨w.heap.size, 0, none⟩ (.int .u64 0)).setCell ⟨w.heap.size, 1, none⟩ (.int .u64 q) = W at s0 s1 HB' ⊢
      refine bodyPost_ret (v := .tuple #[.agg #[.int .u64 0, .int .u64 q], .bool true]) (by simp [results, Tryz.results47, go_sem, s0, s1]) rfl ?_
      rw [HQ.out]
      unfold AddrPost
      exact ⟨by rw [← HE.out]; rfl, HB'⟩
end Go.Proofs.YtgbkeciimddpnaaGreatDoor.Print
