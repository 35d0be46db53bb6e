/-
The walks of addr.groups and addr.joined: the eight groups of an address, and the address of eight groups.
Conditions: numbers of 64 bits; groups of 16.
-/
import Derived.Test.YtgbkeciimddpnaaGreatDoorBase
import Derived.LoopTactic
import Derived.BigRegion
import Derived.Laws.BitsAllLaws
namespace Go.Proofs.YtgbkeciimddpnaaGreatDoor.Print
open Go Go.RowKit

def jn (G : Nat → Int) (o : Nat) : Nat → Int
  | 0 => 0
  | k + 1 => jn G o k * 65536 + G (o + k)
theorem jn_bd (G : Nat → Int) (hG : ∀ j, j < 8 → 0 ≤ G j ∧ G j ≤ 65535) (o : Nat) (k : Nat) (hk : o + k ≤ 8) (hk' : k ≤ 3) : 0 ≤ jn G o k ∧ jn G o k ≤ 281474976710655 := by
  rcases (by omega : k = 0 ∨ k = 1 ∨ k = 2 ∨ k = 3) with rfl | rfl | rfl | rfl
  · simp [jn]
  · have := hG o (by omega); simp [jn]; omega
  · have := hG o (by omega); have := hG (o + 1) (by omega); simp [jn]; omega
  · have := hG o (by omega); have := hG (o + 1) (by omega); have := hG (o + 2) (by omega); simp [jn]; omega
theorem or_join (a x : Int) (h0 : 0 ≤ a) (h1 : a ≤ 281474976710655) (x0 : 0 ≤ x) (x1 : x ≤ 65535) : bits BinOp.or IntKind.u64 (IntKind.u64.wrap (a * 65536)) (IntKind.u64.wrap x) = a * 65536 + x := by
  rw [IntWalk.u64_in _ (by omega), IntWalk.u64_in _ (by omega)]
  have := bits_join .u64 64 (by decide) (fun n k0 k1 => IntWalk.u64_in n (by omega)) 16 (a * 65536) x (by omega) (by omega) (by omega) x0 (by omega) (by omega)
  simpa using this
structure StJ (w : World) (G : Nat → Int) (k : Nat) (wr : World) : Prop where
  arr : ∀ j, j < 8 → wr.cell? ⟨w.heap.size, j, none⟩ = some (.int .u16 (G j))
  hi : wr.cell? ⟨w.heap.size + 1 + 1, 0, none⟩ = some (.int .u64 (jn G 0 k))
  lo : wr.cell? ⟨w.heap.size + 1 + 1, 1, none⟩ = some (.int .u64 (jn G 4 k))
  fh : wr.frozen? ⟨w.heap.size + 1 + 1, 0, none⟩ = false
  fl : wr.frozen? ⟨w.heap.size + 1 + 1, 1, none⟩ = false
  r0 : wr.cell? ⟨w.heap.size + 1, 0, none⟩ = some (.int .u64 0)
  r1 : wr.cell? ⟨w.heap.size + 1, 1, none⟩ = some (.int .u64 0)
  rh : wr.frozen? ⟨w.heap.size + 1, 0, none⟩ = false
  rl : wr.frozen? ⟨w.heap.size + 1, 1, none⟩ = false
  bel : Below w.heap.size w wr
theorem stJ_next {w wr : World} {G : Nat → Int} {k : Nat} (h : StJ w G k wr) (a b : Int) (ha : a = jn G 0 k * 65536 + G k) (hb : b = jn G 4 k * 65536 + G (4 + k)) :
    StJ w G (k + 1) (((wr.setCell ⟨w.heap.size + 1 + 1, 0, none⟩ (.int .u64 a)).setCell ⟨w.heap.size + 1 + 1, 1, none⟩ (.int .u64 b)).drew) := by
  obtain ⟨h1, h2, h3, h4, h5, h6, h7, h8, h9, h10⟩ := h
  refine ⟨fun j hj => ?_, ?_, ?_, ?_, ?_, ?_, ?_, ?_, ?_, ?_⟩
  · have := h1 j hj; go_simp
  · rw [show jn G 0 (k + 1) = a by rw [ha]; simp [jn]]; go_simp
  · rw [show jn G 4 (k + 1) = b by rw [hb]; simp [jn]]; go_simp
  · go_simp
  · go_simp
  · go_simp
  · go_simp
  · go_simp
  · go_simp
  · exact ((h10.setCell (by simp; omega) _).setCell (by simp; omega) _).drew
set_option maxHeartbeats 1600000 in
theorem joined_walk (G : Nat → Int) (hG : ∀ j, j < 8 → 0 ≤ G j ∧ G j ≤ 65535) (h l : Int) (hh : Hid (jn G 0 4 = h)) (hl : Hid (jn G 4 4 = l)) (w : World) :
    Calls Tryz.prog 50 #[.agg #[.int .u16 (G 0), .int .u16 (G 1), .int .u16 (G 2), .int .u16 (G 3), .int .u16 (G 4), .int .u16 (G 5), .int .u16 (G 6), .int .u16 (G 7)]] w fun e w' => e = .returned (.agg #[.int .u64 h, .int .u64 l]) ∧ Below w.heap.size w w' := by
  have HG := Lib.hid hG
  clear hG
  go_enter Tryz.func50, Tryz.ntmps50
  go_wp2
  go_loopw [5] (fun i wr => ∃ k : Nat, k ≤ 4 ∧ i = .int .i64 k ∧ StJ w G k wr) (fun i _ => 4 - (intOf i).toNat)
  case atStart =>
    refine ⟨0, by omega, rfl, ⟨fun j hj => ?_, ?_, ?_, ?_, ?_, ?_, ?_, ?_, ?_, ?_⟩⟩
    · rcases (by omega : j = 0 ∨ j = 1 ∨ j = 2 ∨ j = 3 ∨ j = 4 ∨ j = 5 ∨ j = 6 ∨ j = 7) with rfl | rfl | rfl | rfl | rfl | rfl | rfl | rfl <;> go_simp
    all_goals first | (go_simp; done) | (simp only [jn]; go_simp; done) | exact ((((Below.refl _ _).alloc (Nat.le_refl _) _).alloc (by simp) _).alloc (by simp; omega) _)
  case round =>
    obtain ⟨k, hk, rfl, hS⟩ := hrel
    by_cases hlt : k < 4
    · have ha := hS.arr k (by omega)
      have hb := hS.arr (4 + k) (by omega)
      have hc := hS.hi
      have hd := hS.lo
      have hf := hS.fh
      have hg := hS.fl
      have b1 := jn_bd G HG.out 0 k (by omega) (by omega)
      have b2 := jn_bd G HG.out 4 k (by omega) (by omega)
      have b3 := HG.out k (by omega)
      have b4 := HG.out (4 + k) (by omega)
      obtain ⟨a, hae⟩ : ∃ a, a = jn G 0 k * 65536 + G k := ⟨_, rfl⟩
      obtain ⟨b, hbe⟩ : ∃ b, b = jn G 4 k * 65536 + G (4 + k) := ⟨_, rfl⟩
      have HN := stJ_next hS a b hae hbe
      have o1 := or_join _ _ b1.1 b1.2 b3.1 b3.2
      have o2 := or_join _ _ b2.1 b2.2 b4.1 b4.2
      rw [← hae] at o1
      rw [← hbe] at o2
      clear hae hbe hS b1 b2 b3 b4
      generalize jn G 0 k = hi at hc o1
      generalize jn G 4 k = lo at hd o2
      generalize G k = x at ha o1
      generalize G (4 + k) = y at hb o2
      have q0 : ((k : Int) < 4) := by omega
      go_wp2
      go_region
      go_wp2
      go_roundw
      case rel => exact ⟨k + 1, by omega, by go_num, HN⟩
      case measure => simp [intOf]; omega
    · obtain rfl : k = 4 := by omega
      have hc := hS.hi
      have hd := hS.lo
      rw [hh.out] at hc
      rw [hl.out] at hd
      have hr0 := hS.r0
      have hr1 := hS.r1
      have hrh := hS.rh
      have hrl := hS.rl
      have HB := hS.bel
      clear hS hh hl
      go_wp2
      have s0 : ((wr.setCell ⟨w.heap.size + 1, 0, none⟩ (.int .u64 h)).setCell ⟨w.heap.size + 1, 1, none⟩ (.int .u64 l)).cell? ⟨w.heap.size + 1, 0, none⟩ = some (.int .u64 h) := by go_simp
      have s1 : ((wr.setCell ⟨w.heap.size + 1, 0, none⟩ (.int .u64 h)).setCell ⟨w.heap.size + 1, 1, none⟩ (.int .u64 l)).cell? ⟨w.heap.size + 1, 1, none⟩ = some (.int .u64 l) := by go_simp
      generalize hW : (wr.setCell ⟨w.heap.size + 1, 0, none⟩ (.int .u64 h)).setCell ⟨w.heap.size + 1, 1, none⟩ (.int .u64 l) = W at s0 s1 ⊢
      refine bodyPost_ret (v := .agg #[.int .u64 h, .int .u64 l]) (by simp [results, Tryz.results50, go_sem, s0, s1]) rfl ⟨rfl, ?_⟩
      subst hW
      exact (HB.setCell (by simp) _).setCell (by simp) _
/-- The groups that are laid behind k rounds. -/
def lay (a0 a1 : Int) (k j : Nat) : Int :=
  if j < 4 then (if j < k then IntKind.u16.wrap (a0 / 2 ^ (48 - 16 * j)) else 0) else (if j < 4 + k then IntKind.u16.wrap (a1 / 2 ^ (48 - 16 * (j - 4))) else 0)
theorem lay_next (a0 a1 : Int) (k j : Nat) (hk : k < 4) : lay a0 a1 (k + 1) j = if j = k then IntKind.u16.wrap (a0 / 2 ^ (48 - 16 * k)) else if j = 4 + k then IntKind.u16.wrap (a1 / 2 ^ (48 - 16 * k)) else lay a0 a1 k j := by
  unfold lay
  by_cases h1 : j = k
  · subst h1; rw [if_pos rfl, if_pos hk, if_pos (by omega)]
  · rw [if_neg h1]
    by_cases h2 : j = 4 + k
    · subst h2; rw [if_pos rfl, if_neg (by omega), if_pos (by omega), show 4 + k - 4 = k by omega]
    · rw [if_neg h2]
      by_cases h3 : j < 4
      · rw [if_pos h3, if_pos h3]
        by_cases h4 : j < k
        · rw [if_pos h4, if_pos (by omega)]
        · rw [if_neg h4, if_neg (by omega)]
      · rw [if_neg h3, if_neg h3]
        by_cases h4 : j < 4 + k
        · rw [if_pos h4, if_pos (by omega)]
        · rw [if_neg h4, if_neg (by omega)]
structure StG (w : World) (hi lo : Int) (k : Nat) (wr : World) : Prop where
  arr : ∀ j, j < 8 → wr.cell? ⟨w.heap.size + 1 + 1, j, none⟩ = some (.int .u16 (lay hi lo k j))
  fr : ∀ j, j < 8 → wr.frozen? ⟨w.heap.size + 1 + 1, j, none⟩ = false
  hi : wr.cell? ⟨w.heap.size, 0, none⟩ = some (.int .u64 hi)
  lo : wr.cell? ⟨w.heap.size, 1, none⟩ = some (.int .u64 lo)
  r0 : ∀ j, j < 8 → wr.cell? ⟨w.heap.size + 1, j, none⟩ = some (.int .u16 0)
  rf : ∀ j, j < 8 → wr.frozen? ⟨w.heap.size + 1, j, none⟩ = false
  bel : Below w.heap.size w wr
theorem stG_next {w wr : World} {a0 a1 : Int} {k : Nat} (hk : k < 4) (h : StG w a0 a1 k wr) :
    StG w a0 a1 (k + 1) ((wr.setCell ⟨w.heap.size + 1 + 1, k, none⟩ (.int .u16 (IntKind.u16.wrap (a0 / 2 ^ (48 - 16 * k))))).setCell ⟨w.heap.size + 1 + 1, 4 + k, none⟩ (.int .u16 (IntKind.u16.wrap (a1 / 2 ^ (48 - 16 * k))))).drew := by
  obtain ⟨h1, h2, h3, h4, h5, h6, h7⟩ := h
  refine ⟨fun j hj => ?_, fun j hj => ?_, ?_, ?_, fun j hj => ?_, fun j hj => ?_, ((h7.setCell (by simp; omega) _).setCell (by simp; omega) _).drew⟩
  · have c1 := h1 j hj
    have c2 := h1 k (by omega)
    have c3 := h1 (4 + k) (by omega)
    rw [lay_next a0 a1 k j hk]
    by_cases e1 : j = k
    · subst e1; rw [if_pos rfl]; go_simp
    · rw [if_neg e1]
      by_cases e2 : j = 4 + k
      · subst e2; rw [if_pos rfl]; go_simp
      · rw [if_neg e2]; go_simp
  · have := h2 j hj; go_simp
  · go_simp
  · go_simp
  · have := h5 j hj; go_simp
  · have := h6 j hj; go_simp
set_option maxHeartbeats 1600000 in
theorem groups_walk (a0 a1 : Int) (w0 : 0 ≤ a0 ∧ a0 ≤ 18446744073709551615) (w1 : 0 ≤ a1 ∧ a1 ≤ 18446744073709551615) (G : Nat → Int) (hG : Hid (∀ j, j < 8 → lay a0 a1 4 j = G j)) (w : World) :
    Calls Tryz.prog 40 #[.agg #[.int .u64 a0, .int .u64 a1]] w fun e w' => e = .returned (.agg #[.int .u16 (G 0), .int .u16 (G 1), .int .u16 (G 2), .int .u16 (G 3), .int .u16 (G 4), .int .u16 (G 5), .int .u16 (G 6), .int .u16 (G 7)]) ∧ Below w.heap.size w w' := by
  obtain ⟨w00, w01⟩ := w0
  obtain ⟨w10, w11⟩ := w1
  go_enter Tryz.func40, Tryz.ntmps40
  go_wp2
  go_loopw [5] (fun i wr => ∃ k : Nat, k ≤ 4 ∧ i = .int .i64 k ∧ StG w a0 a1 k wr) (fun i _ => 4 - (intOf i).toNat)
  case atStart =>
    refine ⟨0, by omega, rfl, ⟨fun j hj => ?_, fun j hj => ?_, ?_, ?_, fun j hj => ?_, fun j hj => ?_, (((Below.refl _ _).alloc (Nat.le_refl _) _).alloc (by simp) _).alloc (by simp; omega) _⟩⟩
    · rcases (by omega : j = 0 ∨ j = 1 ∨ j = 2 ∨ j = 3 ∨ j = 4 ∨ j = 5 ∨ j = 6 ∨ j = 7) with rfl | rfl | rfl | rfl | rfl | rfl | rfl | rfl <;> (simp only [lay]; go_simp)
    · go_simp
    · go_simp
    · go_simp
    · rcases (by omega : j = 0 ∨ j = 1 ∨ j = 2 ∨ j = 3 ∨ j = 4 ∨ j = 5 ∨ j = 6 ∨ j = 7) with rfl | rfl | rfl | rfl | rfl | rfl | rfl | rfl <;> go_simp
    · go_simp
  case round =>
    obtain ⟨k, hk, rfl, hS⟩ := hrel
    by_cases hlt : k < 4
    · have ha := hS.arr k (by omega)
      have hb := hS.arr (4 + k) (by omega)
      have fa := hS.fr k (by omega)
      have fb := hS.fr (4 + k) (by omega)
      have hc := hS.hi
      have hd := hS.lo
      have HN := stG_next hlt hS
      clear hS
      generalize lay a0 a1 k k = x at ha
      generalize lay a0 a1 k (4 + k) = y at hb
      have q0 : ((k : Int) < 4) := by omega
      go_wp2
      go_region
      go_wp2
      go_roundw
      case rel => exact ⟨k + 1, by omega, by go_num, HN⟩
      case measure => simp [intOf]; omega
    · obtain rfl : k = 4 := by omega
      have c : ∀ j, j < 8 → wr.cell? ⟨w.heap.size + 1 + 1, j, none⟩ = some (.int .u16 (G j)) := fun j hj => by rw [hS.arr j hj, hG.out j hj]
      have c0 := c 0 (by omega)
      have c1 := c 1 (by omega)
      have c2 := c 2 (by omega)
      have c3 := c 3 (by omega)
      have c4 := c 4 (by omega)
      have c5 := c 5 (by omega)
      have c6 := c 6 (by omega)
      have c7 := c 7 (by omega)
      have d0 := hS.r0 0 (by omega)
      have d1 := hS.r0 1 (by omega)
      have d2 := hS.r0 2 (by omega)
      have d3 := hS.r0 3 (by omega)
      have d4 := hS.r0 4 (by omega)
      have d5 := hS.r0 5 (by omega)
      have d6 := hS.r0 6 (by omega)
      have d7 := hS.r0 7 (by omega)
      have e0 := hS.rf 0 (by omega)
      have e1 := hS.rf 1 (by omega)
      have e2 := hS.rf 2 (by omega)
      have e3 := hS.rf 3 (by omega)
      have e4 := hS.rf 4 (by omega)
      have e5 := hS.rf 5 (by omega)
      have e6 := hS.rf 6 (by omega)
      have e7 := hS.rf 7 (by omega)
      have HB := hS.bel
      clear hS c hG
      go_wp2
      have s0 : ((((((((wr.setCell ⟨w.heap.size + 1, 0, none⟩ (.int .u16 (G 0))).setCell ⟨w.heap.size + 1, 1, none⟩ (.int .u16 (G 1))).setCell ⟨w.heap.size + 1, 2, none⟩ (.int .u16 (G 2))).setCell ⟨w.heap.size + 1, 3, none⟩ (.int .u16 (G 3))).setCell ⟨w.heap.size + 1, 4, none⟩ (.int .u16 (G 4))).setCell ⟨w.heap.size + 1, 5, none⟩ (.int .u16 (G 5))).setCell ⟨w.heap.size + 1, 6, none⟩ (.int .u16 (G 6))).setCell ⟨w.heap.size + 1, 7, none⟩ (.int .u16 (G 7))).cell? ⟨w.heap.size + 1, 0, none⟩ = some (.int .u16 (G 0)) := by go_simp
      have s1 : ((((((((wr.setCell ⟨w.heap.size + 1, 0, none⟩ (.int .u16 (G 0))).setCell ⟨w.heap.size + 1, 1, none⟩ (.int .u16 (G 1))).setCell ⟨w.heap.size + 1, 2, none⟩ (.int .u16 (G 2))).setCell ⟨w.heap.size + 1, 3, none⟩ (.int .u16 (G 3))).setCell ⟨w.heap.size + 1, 4, none⟩ (.int .u16 (G 4))).setCell ⟨w.heap.size + 1, 5, none⟩ (.int .u16 (G 5))).setCell ⟨w.heap.size + 1, 6, none⟩ (.int .u16 (G 6))).setCell ⟨w.heap.size + 1, 7, none⟩ (.int .u16 (G 7))).cell? ⟨w.heap.size + 1, 1, none⟩ = some (.int .u16 (G 1)) := by go_simp
      have s2 : ((((((((wr.setCell ⟨w.heap.size + 1, 0, none⟩ (.int .u16 (G 0))).setCell ⟨w.heap.size + 1, 1, none⟩ (.int .u16 (G 1))).setCell ⟨w.heap.size + 1, 2, none⟩ (.int .u16 (G 2))).setCell ⟨w.heap.size + 1, 3, none⟩ (.int .u16 (G 3))).setCell ⟨w.heap.size + 1, 4, none⟩ (.int .u16 (G 4))).setCell ⟨w.heap.size + 1, 5, none⟩ (.int .u16 (G 5))).setCell ⟨w.heap.size + 1, 6, none⟩ (.int .u16 (G 6))).setCell ⟨w.heap.size + 1, 7, none⟩ (.int .u16 (G 7))).cell? ⟨w.heap.size + 1, 2, none⟩ = some (.int .u16 (G 2)) := by go_simp
      have s3 : ((((((((wr.setCell ⟨w.heap.size + 1, 0, none⟩ (.int .u16 (G 0))).setCell ⟨w.heap.size + 1, 1, none⟩ (.int .u16 (G 1))).setCell ⟨w.heap.size + 1, 2, none⟩ (.int .u16 (G 2))).setCell ⟨w.heap.size + 1, 3, none⟩ (.int .u16 (G 3))).setCell ⟨w.heap.size + 1, 4, none⟩ (.int .u16 (G 4))).setCell ⟨w.heap.size + 1, 5, none⟩ (.int .u16 (G 5))).setCell ⟨w.heap.size + 1, 6, none⟩ (.int .u16 (G 6))).setCell ⟨w.heap.size + 1, 7, none⟩ (.int .u16 (G 7))).cell? ⟨w.heap.size + 1, 3, none⟩ = some (.int .u16 (G 3)) := by go_simp
      have s4 : ((((((((wr.setCell ⟨w.heap.size + 1, 0, none⟩ (.int .u16 (G 0))).setCell ⟨w.heap.size + 1, 1, none⟩ (.int .u16 (G 1))).setCell ⟨w.heap.size + 1, 2, none⟩ (.int .u16 (G 2))).setCell ⟨w.heap.size + 1, 3, none⟩ (.int .u16 (G 3))).setCell ⟨w.heap.size + 1, 4, none⟩ (.int .u16 (G 4))).setCell ⟨w.heap.size + 1, 5, none⟩ (.int .u16 (G 5))).setCell ⟨w.heap.size + 1, 6, none⟩ (.int .u16 (G 6))).setCell ⟨w.heap.size + 1, 7, none⟩ (.int .u16 (G 7))).cell? ⟨w.heap.size + 1, 4, none⟩ = some (.int .u16 (G 4)) := by go_simp
      have s5 : ((((((((wr.setCell ⟨w.heap.size + 1, 0, none⟩ (.int .u16 (G 0))).setCell ⟨w.heap.size + 1, 1, none⟩ (.int .u16 (G 1))).setCell ⟨w.heap.size + 1, 2, none⟩ (.int .u16 (G 2))).setCell ⟨w.heap.size + 1, 3, none⟩ (.int .u16 (G 3))).setCell ⟨w.heap.size + 1, 4, none⟩ (.int .u16 (G 4))).setCell ⟨w.heap.size + 1, 5, none⟩ (.int .u16 (G 5))).setCell ⟨w.heap.size + 1, 6, none⟩ (.int .u16 (G 6))).setCell ⟨w.heap.size + 1, 7, none⟩ (.int .u16 (G 7))).cell? ⟨w.heap.size + 1, 5, none⟩ = some (.int .u16 (G 5)) := by go_simp
      have s6 : ((((((((wr.setCell ⟨w.heap.size + 1, 0, none⟩ (.int .u16 (G 0))).setCell ⟨w.heap.size + 1, 1, none⟩ (.int .u16 (G 1))).setCell ⟨w.heap.size + 1, 2, none⟩ (.int .u16 (G 2))).setCell ⟨w.heap.size + 1, 3, none⟩ (.int .u16 (G 3))).setCell ⟨w.heap.size + 1, 4, none⟩ (.int .u16 (G 4))).setCell ⟨w.heap.size + 1, 5, none⟩ (.int .u16 (G 5))).setCell ⟨w.heap.size + 1, 6, none⟩ (.int .u16 (G 6))).setCell ⟨w.heap.size + 1, 7, none⟩ (.int .u16 (G 7))).cell? ⟨w.heap.size + 1, 6, none⟩ = some (.int .u16 (G 6)) := by go_simp
      have s7 : ((((((((wr.setCell ⟨w.heap.size + 1, 0, none⟩ (.int .u16 (G 0))).setCell ⟨w.heap.size + 1, 1, none⟩ (.int .u16 (G 1))).setCell ⟨w.heap.size + 1, 2, none⟩ (.int .u16 (G 2))).setCell ⟨w.heap.size + 1, 3, none⟩ (.int .u16 (G 3))).setCell ⟨w.heap.size + 1, 4, none⟩ (.int .u16 (G 4))).setCell ⟨w.heap.size + 1, 5, none⟩ (.int .u16 (G 5))).setCell ⟨w.heap.size + 1, 6, none⟩ (.int .u16 (G 6))).setCell ⟨w.heap.size + 1, 7, none⟩ (.int .u16 (G 7))).cell? ⟨w.heap.size + 1, 7, none⟩ = some (.int .u16 (G 7)) := by go_simp
      have HB' : Below w.heap.size w ((((((((wr.setCell ⟨w.heap.size + 1, 0, none⟩ (.int .u16 (G 0))).setCell ⟨w.heap.size + 1, 1, none⟩ (.int .u16 (G 1))).setCell ⟨w.heap.size + 1, 2, none⟩ (.int .u16 (G 2))).setCell ⟨w.heap.size + 1, 3, none⟩ (.int .u16 (G 3))).setCell ⟨w.heap.size + 1, 4, none⟩ (.int .u16 (G 4))).setCell ⟨w.heap.size + 1, 5, none⟩ (.int .u16 (G 5))).setCell ⟨w.heap.size + 1, 6, none⟩ (.int .u16 (G 6))).setCell ⟨w.heap.size + 1, 7, none⟩ (.int .u16 (G 7))) := ((((((((HB.setCell (by simp) _).setCell (by simp) _).setCell (by simp) _).setCell (by simp) _).setCell (by simp) _).setCell (by simp) _).setCell (by simp) _).setCell (by simp) _)
      generalize ((((((((wr.setCell ⟨w.heap.size + 1, 0, none⟩ (.int .u16 (G 0))).setCell ⟨w.heap.size + 1, 1, none⟩ (.int .u16 (G 1))).setCell ⟨w.heap.size + 1, 2, none⟩ (.int .u16 (G 2))).setCell ⟨w.heap.size + 1, 3, none⟩ (.int .u16 (G 3))).setCell ⟨w.heap.size + 1, 4, none⟩ (.int .u16 (G 4))).setCell ⟨w.heap.size + 1, 5, none⟩ (.int .u16 (G 5))).setCell ⟨w.heap.size + 1, 6, none⟩ (.int .u16 (G 6))).setCell ⟨w.heap.size + 1, 7, none⟩ (.int .u16 (G 7))) = W at s0 s1 s2 s3 s4 s5 s6 s7 HB' ⊢
      exact bodyPost_ret (v := .agg #[.int .u16 (G 0), .int .u16 (G 1), .int .u16 (G 2), .int .u16 (G 3), .int .u16 (G 4), .int .u16 (G 5), .int .u16 (G 6), .int .u16 (G 7)]) (by simp [results, Tryz.results40, go_sem, s0, s1, s2, s3, s4, s5, s6, s7]) rfl ⟨rfl, HB'⟩
end Go.Proofs.YtgbkeciimddpnaaGreatDoor.Print
