/-
The walk of the reference's Print where the address is no IPv4 address: the groups, the longest zeros left away.
Conditions: numbers of 64 bits.
-/
import Derived.Test.YtgbkeciimddpnaaGreatDoorAddrRp

namespace Go.Proofs.YtgbkeciimddpnaaGreatDoor.Print
open Go Go.RowKit Go.Proofs.YtgbkeciimddpnaaGreatDoor.AddrP
/-- Two numbers that lie in a block. -/
structure Box2 (b : Nat) (a0 a1 : Int) (w : World) : Prop where
  c0 : w.cell? ⟨b, 0, none⟩ = some (.int .u64 a0)
  c1 : w.cell? ⟨b, 1, none⟩ = some (.int .u64 a1)
theorem Box2.below {b : Nat} {a0 a1 : Int} {w w' : World} (h : Box2 b a0 a1 w) (hb : Below w.heap.size w w') : Box2 b a0 a1 w' :=
  ⟨(hb.cell (p := ⟨b, 0, none⟩) (lt_of_cell h.c0)).trans h.c0, (hb.cell (p := ⟨b, 1, none⟩) (lt_of_cell h.c0)).trans h.c1⟩
theorem box2_new (w : World) (a0 a1 : Int) (T : TypeId) : Box2 w.heap.size a0 a1 (w.alloc (.cells #[.int .u64 a0, .int .u64 a1] T)) := by
  constructor <;> go_simp
def refAt (p : Nat × Nat) : Int := if 2 ≤ p.2 then (p.1 : Int) else -1
def refLong (p : Nat × Nat) : Nat := if 2 ≤ p.2 then p.2 else 1
theorem ref_up (p : Nat × Nat) (k z : Nat) (h : refLong p < z) : p.2 < z ∧ refAt (k, z) = k ∧ refLong (k, z) = z := by
  unfold refLong refAt at *
  split at h
  · refine ⟨h, ?_, ?_⟩ <;> rw [if_pos (by show 2 ≤ z; omega)]
  · refine ⟨by omega, ?_, ?_⟩ <;> rw [if_pos (by show 2 ≤ z; omega)]
theorem ref_keep (g : List Nat) (p : Nat × Nat) (k : Nat) (h : ¬ refLong p < zrun (g.drop k)) : refAt (bestStep g p k) = refAt p ∧ refLong (bestStep g p k) = refLong p := by
  unfold bestStep
  split
  · next hlt =>
    unfold refLong at h
    split at h
    · omega
    · next h2 =>
      unfold refAt refLong
      rw [if_neg (show ¬ 2 ≤ (k, zrun (g.drop k)).2 by show ¬ 2 ≤ zrun _; omega), if_neg (show ¬ 2 ≤ (k, zrun (g.drop k)).2 by show ¬ 2 ≤ zrun _; omega), if_neg h2, if_neg h2]
      exact ⟨rfl, rfl⟩
  · exact ⟨rfl, rfl⟩
theorem refLong_le (g : List Nat) (hg : g.length = 8) (k : Nat) (hk : k ≤ 8) : refLong (bestTo g k) ≤ 8 ∧ -1 ≤ refAt (bestTo g k) ∧ refAt (bestTo g k) ≤ 8 := by
  obtain ⟨h1, h2⟩ := bestTo_le g hg k hk
  unfold refLong refAt
  split <;> omega

theorem outTo_len (g : List Nat) (hg : g.length = 8) (hb : ∀ n ∈ g, n ≤ 65535) (A L k : Nat) : (outTo g A L k).length ≤ 130 := by
  have h1 : ∀ m, (hexs (g.take m)).length ≤ 64 := fun m => hexs_len _ (by rw [List.length_take]; omega) (fun n hn => hb n (List.mem_of_mem_take hn))
  unfold outTo
  split
  · have := h1 k; omega
  · have := h1 A
    have h2 := hexs_len ((g.take k).drop (A + L)) (by rw [List.length_drop, List.length_take]; omega) (fun n hn => hb n (List.mem_of_mem_take (List.mem_of_mem_drop hn)))
    simp only [List.length_append, List.length_cons, List.length_nil]
    omega
theorem outTo_end (g : List Nat) (hg : g.length = 8) : ∃ A L : Nat, ((refAt (best g) = (A : Int) ∧ A + L ≤ 8) ∨ (refAt (best g) = -1 ∧ A = 8)) ∧ refLong (best g) = L ∧ 1 ≤ L ∧ L ≤ 8 ∧ outTo g A L 8 = pr6 g := by
  have h8 : g.take 8 = g := List.take_of_length_le (by omega)
  by_cases h : 2 ≤ (best g).2
  · obtain ⟨hp, _⟩ := best_parts g (by omega)
    refine ⟨(best g).1, (best g).2, Or.inl ⟨by unfold refAt; rw [if_pos h], by omega⟩, by unfold refLong; rw [if_pos h], by omega, by omega, ?_⟩
    unfold outTo pr6
    rw [if_neg (by omega), if_neg (by omega), h8]
  · refine ⟨8, 1, Or.inr ⟨by unfold refAt; rw [if_neg h], rfl⟩, by unfold refLong; rw [if_neg h], by omega, by omega, ?_⟩
    unfold outTo pr6
    rw [if_pos (by omega), if_pos (by omega), h8]
theorem digits_hex (n : Nat) (hn : n ≤ 4294967296) (w : World) : Calls Tryz.prog 29 #[.int .i64 n, .int .i64 16] w fun e w' => e = .returned (.string (mkB (digs 16 n))) ∧ Below w.heap.size w w' := digits_calls n 16 (by omega) (by omega) hn w
theorem last_at (l : List UInt8) (c : UInt8) (h : l.getLast? = some c) (h' : (mkB l).size - 1 < (mkB l).size) : (mkB l)[(mkB l).size - 1]'h' = c := by
  have e : (mkB l)[(mkB l).size - 1]'h' = l.toArray[l.toArray.size - 1]'h' := rfl
  rw [e]
  simp only [List.getElem_toArray, List.size_toArray]
  rw [List.getLast?_eq_getElem?] at h
  exact (List.getElem?_eq_some_iff.mp h).2

set_option maxRecDepth 100000 in
set_option maxHeartbeats 12800000 in
theorem refPrint_six (a0 a1 : Int) (g : List Nat) (hg8 : g.length = 8) (hgb : ∀ n ∈ g, n ≤ 65535) (w : World) (hi4 : ∀ w1 : World, Calls Tryz.prog 15 #[.agg #[.int .u64 a0, .int .u64 a1]] w1 fun e w' => e = .returned (.bool false) ∧ Below w1.heap.size w1 w')
    (hgr : ∀ (i x : Nat) (ii : Int), ii = (i : Int) → g[i]? = some x → ∀ w1 : World, Calls Tryz.prog 44 #[.agg #[.int .u64 a0, .int .u64 a1], .int .i64 ii] w1 fun e w' => e = .returned (.int .i64 x) ∧ Below w1.heap.size w1 w') :
    Calls Tryz.prog 28 #[.agg #[.int .u64 a0, .int .u64 a1]] w fun e w' => e = .returned (.string (mkB (pr6 g))) ∧ Below w.heap.size w w' := by
  have HI := Lib.hid hi4
  have HGR := Lib.hid hgr
  have HGB := Lib.hid hgb
  clear hi4 hgr hgb
  go_enter Tryz.func28, Tryz.ntmps28
  go_wp2_with (go_at_call 15; refine (HI.out _).mono ?_; rintro e w1 ⟨rfl, hb1⟩)
  have hX1 := (box2_new w a0 a1 24).below hb1
  have hB1 := (ba1 w (.cells #[.int .u64 a0, .int .u64 a1] 24)).trans (hb1.mono (by simp))
  clear hb1
  go_loopw [4, 5, 6] (fun at_ lg i wr => ∃ k : Nat, k ≤ 8 ∧ at_ = .int .i64 (refAt (bestTo g k)) ∧ lg = .int .i64 ((refLong (bestTo g k) : Nat) : Int) ∧ i = .int .i64 k ∧ Box2 w.heap.size a0 a1 wr ∧ Below w.heap.size w wr) (fun _ _ i _ => 8 - (intOf i).toNat)
  case atStart => exact ⟨0, by omega, rfl, rfl, rfl, hX1, hB1⟩
  case round =>
    obtain ⟨k, hk, rfl, rfl, rfl, hX, hB⟩ := hrel
    by_cases hk8 : k < 8
    · obtain ⟨bl2, bl0, bl1⟩ := refLong_le g hg8 k hk
      have hz := zrun_le (g.drop k)
      rw [List.length_drop, hg8] at hz
      obtain ⟨z, hzz⟩ : ∃ z, z = zrun (g.drop k) := ⟨_, rfl⟩
      have hstep := bestTo_succ g k
      have hUp : refLong (bestTo g k) < z → refAt (bestTo g (k + 1)) = k ∧ refLong (bestTo g (k + 1)) = z := by
        intro h
        have h' := ref_up (bestTo g k) k z h
        rw [hstep]
        unfold bestStep
        rw [if_pos (by rw [← hzz]; exact h'.1), ← hzz]
        exact h'.2
      have hKeep : ¬ refLong (bestTo g k) < z → refAt (bestTo g (k + 1)) = refAt (bestTo g k) ∧ refLong (bestTo g (k + 1)) = refLong (bestTo g k) := by
        intro h
        rw [hstep]
        exact ref_keep g _ k (by rw [← hzz]; exact h)
      have HUp := Lib.hid hUp
      have HKeep := Lib.hid hKeep
      rw [← hzz] at hz
      have HZ := Lib.hid hzz
      clear hstep hUp hKeep hzz
      have hkd : decide ((k : Int) < 8) = true := decide_eq_true (by omega)
      generalize refAt (bestTo g k) = p1 at bl0 bl1 HKeep ⊢
      generalize refLong (bestTo g k) = p2 at bl2 HUp HKeep ⊢
      go_wp2_with fail
      obtain ⟨wo, hwo⟩ : ∃ wo : World, wo = wr := ⟨_, rfl⟩
      clear hwo
      go_loopw [7] (fun n wq => ∃ j : Nat, j ≤ z ∧ n = .int .i64 j ∧ Box2 w.heap.size a0 a1 wq ∧ Below w.heap.size w wq) (fun n _ => 8 - (intOf n).toNat)
      case atStart => exact ⟨0, by omega, rfl, hX, hB⟩
      case round =>
        obtain ⟨j, hj1, rfl, hX2, hB2⟩ := hrel
        obtain ⟨x0, x1⟩ := hX2
        have hX2 : Box2 w.heap.size a0 a1 wr := ⟨x0, x1⟩
        have hjb : j ≤ 8 := by omega
        by_cases hj8 : k + j < 8
        · have hj8' : (k : Int) + (j : Int) < 8 := by omega
          obtain ⟨x, hx⟩ : ∃ x, g[k + j]? = some x := ⟨_, List.getElem?_eq_getElem (by omega)⟩
          have HG := Lib.hid (HGR.out (k + j) x ((k : Int) + (j : Int)) (by omega) hx)
          have hs := zrun_step g k (k + j) (by omega) (by rw [← HZ.out]; omega) x hx
          rw [← HZ.out] at hs
          by_cases hx0 : x = 0
          · have hs1 : j + 1 ≤ z := by have := hs.1 hx0; omega
            have hG0 : ∀ w1 : World, Calls Tryz.prog 44 #[.agg #[.int .u64 a0, .int .u64 a1], .int .i64 ((k : Int) + (j : Int))] w1 fun e w' => e = .returned (.int .i64 0) ∧ Below w1.heap.size w1 w' := by
              have := HG.out
              rw [hx0] at this
              exact this
            have HG0 := Lib.hid hG0
            clear hs hx hG0 HG hx0
            go_wp2_with (go_at_call 44; refine (HG0.out _).mono ?_; rintro e w2 ⟨rfl, hb⟩)
            go_roundw
            case rel => exact ⟨j + 1, hs1, by go_num, hX2.below hb, bnext hB2 hb⟩
            case measure => simp [intOf]; omega
          · have hjz : j = z := by have := hs.2 hx0; omega
            have hxb : ((x : Int) == 0) = false := by rw [beq_eq_false_iff_ne]; omega
            clear hs hx hx0
            by_cases hpz : p2 < z
            · obtain ⟨u1, u2⟩ := HUp.out hpz
              have HU1 := Lib.hid u1
              have HU2 := Lib.hid u2
              have hgt : (p2 : Int) < (j : Int) := by omega
              have HJ := Lib.hid hjz
              clear u1 u2 hjz hpz hj1
              go_wp2_with (go_at_call 44; refine (HG.out _).mono ?_; rintro e w2 ⟨rfl, hb⟩)
              go_roundw
              case rel => exact ⟨k + 1, by omega, by rw [HU1.out], by rw [HU2.out, HJ.out], by go_num, hX2.below hb, bnext hB2 hb⟩
              case measure => simp [intOf]; omega
            · obtain ⟨u1, u2⟩ := HKeep.out hpz
              have HU1 := Lib.hid u1
              have HU2 := Lib.hid u2
              have hgt : (j : Int) ≤ (p2 : Int) := by omega
              clear u1 u2 hjz hpz hj1
              go_wp2_with (go_at_call 44; refine (HG.out _).mono ?_; rintro e w2 ⟨rfl, hb⟩)
              go_roundw
              case rel => exact ⟨k + 1, by omega, by rw [HU1.out], by rw [HU2.out], by go_num, hX2.below hb, bnext hB2 hb⟩
              case measure => simp [intOf]; omega
        · have hj8' : (8 : Int) ≤ (k : Int) + (j : Int) := by omega
          have hjz : j = z := by have := zrun_end g k (k + j) (by omega) (by rw [← HZ.out]; omega) (by omega); rw [← HZ.out] at this; omega
          by_cases hpz : p2 < z
          · obtain ⟨u1, u2⟩ := HUp.out hpz
            have HU1 := Lib.hid u1
            have HU2 := Lib.hid u2
            have hgt : (p2 : Int) < (j : Int) := by omega
            have HJ := Lib.hid hjz
            clear u1 u2 hjz hpz hj1
            go_wp2_with fail
            go_roundw
            case rel => exact ⟨k + 1, by omega, by rw [HU1.out], by rw [HU2.out, HJ.out], by go_num, hX2, hB2⟩
            case measure => simp [intOf]; omega
          · obtain ⟨u1, u2⟩ := HKeep.out hpz
            have HU1 := Lib.hid u1
            have HU2 := Lib.hid u2
            have hgt : (j : Int) ≤ (p2 : Int) := by omega
            clear u1 u2 hjz hpz hj1
            go_wp2_with fail
            go_roundw
            case rel => exact ⟨k + 1, by omega, by rw [HU1.out], by rw [HU2.out], by go_num, hX2, hB2⟩
            case measure => simp [intOf]; omega
    · obtain rfl : k = 8 := by omega
      have hbest : bestTo g 8 = best g := rfl
      obtain ⟨A, L, hA, hL, hL1, hL8, hfin⟩ := outTo_end g hg8
      have HFIN := Lib.hid hfin
      rw [hbest, hL]
      generalize refAt (best g) = atI at hA ⊢
      have hat : -1 ≤ atI ∧ atI ≤ 8 := by omega
      obtain ⟨hat0, hat1⟩ := hat
      clear hbest hL hfin
      go_wp2_with fail
      obtain ⟨wo, hwo⟩ : ∃ wo : World, wo = wr := ⟨_, rfl⟩
      clear hwo
      go_loopw [8, 9] (fun out i wr => ∃ (k : Nat) (O : ByteArray), k ≤ 8 ∧ out = .string O ∧ i = .int .i64 k ∧ Hid (O = mkB (outTo g A L k)) ∧ (k ≤ A ∨ A + L ≤ k) ∧ Box2 w.heap.size a0 a1 wr ∧ Below w.heap.size w wr) (fun _ i _ => 8 - (intOf i).toNat)
      case atStart => exact ⟨0, _, by omega, rfl, rfl, Lib.hid rfl, by omega, hX, hB⟩
      case round =>
        obtain ⟨k, O, hk, rfl, rfl, hO, hkA, hX, hB⟩ := hrel
        obtain ⟨x0, x1⟩ := hX
        have hX : Box2 w.heap.size a0 a1 wr := ⟨x0, x1⟩
        have hO1 := hO.out
        have hOs : O.size ≤ 130 := by rw [hO1, mkB_size]; exact outTo_len g hg8 HGB.out A L k
        by_cases hk8 : k < 8
        · by_cases hkat : (k : Int) = atI
          · have hkA2 : k = A := by omega
            have hsum : A + L ≤ 8 := by omega
            have hne : ((k : Int) == atI) = true := by rw [beq_iff_eq]; exact hkat
            have hjump := outTo_jump g A L hL1 (by omega)
            have hN : O ++ ⟨#[58, 58]⟩ = mkB (outTo g A L (k + L)) := by
              rw [hkA2, hjump, hO1, hkA2, ← mkB_app]
              rfl
            have HN := Lib.hid hN
            have z1 : ¬ 9223372036854775807 < O.size + 2 := by omega
            clear hjump hN hkat hO hO1 hA
            go_wp2_with fail
            go_roundw
            case rel => exact ⟨k + L, _, by omega, rfl, by go_num, HN, by omega, hX, hB⟩
            case measure => simp [intOf]; omega
          · have hne : ((k : Int) == atI) = false := by rw [beq_eq_false_iff_ne]; exact hkat
            obtain ⟨x, hx⟩ : ∃ x, g[k]? = some x := ⟨_, List.getElem?_eq_getElem (by omega)⟩
            have hx6 := HGB.out x (List.mem_of_getElem? hx)
            have HG := Lib.hid (HGR.out k x (k : Int) rfl hx)
            obtain ⟨H, hH⟩ : ∃ H, H = mkB (digs 16 x) := ⟨_, rfl⟩
            have hdig := digits_hex x (by omega)
            rw [← hH] at hdig
            have HH := Lib.hid hdig
            have hHs : H.size ≤ 4 := by rw [hH, mkB_size]; exact digs_len (b := 16) (by omega) 3 x (by omega)
            have hmore : outTo g A L (k + 1) = more (outTo g A L k) (digs 16 x) := by
              rcases hkA with h | h
              · exact outTo_before g A L k x (by omega) hx
              · exact outTo_behind g A L k x h hL1 hx
            have hnextA : k + 1 ≤ A ∨ A + L ≤ k + 1 := by omega
            by_cases he : outTo g A L k = []
            · have hN : H = mkB (outTo g A L (k + 1)) := by
                rw [hmore, he, hH]; unfold more; rw [if_pos (Or.inl rfl)]; rfl
              have HN := Lib.hid hN
              obtain rfl : O = ⟨#[]⟩ := by rw [hO1, he]; rfl
              have hemp : (⟨#[]⟩ : ByteArray) ++ H = H := by apply ByteArray.ext; apply Array.toList_inj.mp; simp
              have z2 : ¬ 9223372036854775807 < H.size := by omega
              clear hmore hN hdig hH hx hkat hO hO1 hA he
              go_wp2_with (first | (go_at_call 44; refine (HG.out _).mono ?_; rintro e w2 ⟨rfl, hb2⟩; have hX2 := hX.below hb2; obtain ⟨y0, y1⟩ := hX2) | (go_at_call 29; refine (HH.out _).mono ?_; rintro e w3 ⟨rfl, hb3⟩))
              go_roundw
              case rel => (repeat apply Exists.intro); exact ⟨⟨k + 1, H, by omega, rfl, by go_num, HN, hnextA, (hX.below hb2).below hb3, bnext (bnext hB hb2) hb3⟩, rfl⟩
              case measure => simp [intOf]; omega
            · have hne0 : O.toList.isEmpty = false := by rw [hO1]; exact emp_false _ he
              obtain ⟨c, hc⟩ : ∃ c, (outTo g A L k).getLast? = some c := by
                cases hg : (outTo g A L k).getLast? with
                | none => exact absurd (List.getLast?_eq_none_iff.mp hg) he
                | some c => exact ⟨c, rfl⟩
              have hpos : 0 < O.size := by rw [hO1, mkB_size]; exact List.length_pos_iff.mpr he
              have hlast : O[O.size - 1]'(by omega) = c := by
                subst hO1
                exact last_at _ c hc _
              by_cases h58 : c = 58
              · have hN : O ++ H = mkB (outTo g A L (k + 1)) := by
                  rw [hmore, hO1, hH, mkB_app]; unfold more; rw [if_pos (Or.inr (by rw [hc, h58]))]
                have HN := Lib.hid hN
                have hc58 : ((c.toNat : Int) != 58) = false := by rw [h58]; rfl
                have z2 : ¬ 9223372036854775807 < O.size + H.size := by omega
                clear hmore hN hdig hH hx hkat hO hO1 hA he hc h58
                go_wp2_with (first | (go_at_call 44; refine (HG.out _).mono ?_; rintro e w2 ⟨rfl, hb2⟩; have hX2 := hX.below hb2; obtain ⟨y0, y1⟩ := hX2) | (go_at_call 29; refine (HH.out _).mono ?_; rintro e w3 ⟨rfl, hb3⟩))
                go_roundw
                case rel => (repeat apply Exists.intro); exact ⟨⟨k + 1, _, by omega, rfl, by go_num, HN, hnextA, (hX.below hb2).below hb3, bnext (bnext hB hb2) hb3⟩, rfl⟩
                case measure => simp [intOf]; omega
              · have hN : O ++ ⟨#[58]⟩ ++ H = mkB (outTo g A L (k + 1)) := by
                  rw [hmore, hO1, hH]
                  unfold more
                  rw [if_neg (by rintro (e | e); exact he e; exact h58 (by rw [hc] at e; exact Option.some.inj e))]
                  apply ByteArray.ext
                  apply Array.toList_inj.mp
                  simp [mkB]
                have HN := Lib.hid hN
                have hc58 : ((c.toNat : Int) != 58) = true := by
                  rw [bne_iff_ne]
                  intro e
                  exact h58 (UInt8.toNat_inj.mp (by have : (58 : UInt8).toNat = 58 := rfl; omega))
                have z2 : ¬ 9223372036854775807 < O.size + 1 := by omega
                have z3 : ¬ 9223372036854775807 < O.size + 1 + H.size := by omega
                clear hmore hN hdig hH hx hkat hO hO1 hA he hc h58
                go_wp2_with (first | (go_at_call 44; refine (HG.out _).mono ?_; rintro e w2 ⟨rfl, hb2⟩; have hX2 := hX.below hb2; obtain ⟨y0, y1⟩ := hX2) | (go_at_call 29; refine (HH.out _).mono ?_; rintro e w3 ⟨rfl, hb3⟩))
                go_roundw
                case rel => (repeat apply Exists.intro); exact ⟨⟨k + 1, _, by omega, rfl, by go_num, HN, hnextA, (hX.below hb2).below hb3, bnext (bnext hB hb2) hb3⟩, rfl⟩
                case measure => simp [intOf]; omega
        · obtain rfl : k = 8 := by omega
          have hres : O = mkB (pr6 g) := by rw [hO1, HFIN.out]
          have HR := Lib.hid hres
          clear hO hO1 hA hres
          go_wp2_with fail
          go_ret
          exact ⟨ret_str HR.out, hB⟩
/-- The reference's Print. -/
theorem refPrint_calls (hi lo : Nat) (h1 : hi < 18446744073709551616) (h2 : lo < 18446744073709551616) (w : World) :
    Calls Tryz.prog 28 #[.agg #[.int .u64 hi, .int .u64 lo]] w fun e w' => e = .returned (.string (mkB (prA hi lo))) ∧ Below w.heap.size w w' := by
  unfold prA
  by_cases h4 : isFour hi lo = true
  · rw [if_pos h4]
    have h0 : hi = 0 ∧ lo / 4294967296 = 65535 := by unfold isFour at h4; simpa using h4
    obtain ⟨rfl, h5⟩ := h0
    exact refPrint_four lo (lo - 281470681743360) (by omega) (by omega) w (fun w1 => by have := refIs4_calls 0 lo w1; rw [h4] at this; exact this)
  · rw [if_neg h4]
    have h4' : isFour hi lo = false := by simpa using h4
    exact refPrint_six hi lo (grp hi lo) rfl (grp_le hi lo) w (fun w1 => by have := refIs4_calls hi lo w1; rw [h4'] at this; exact this) (fun i x ii hii hx w1 => by rw [hii]; exact group_calls hi lo i x h1 h2 hx w1)
end Go.Proofs.YtgbkeciimddpnaaGreatDoor.Print
