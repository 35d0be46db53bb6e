/-
The walk of strconv.FormatUint to the base sixteen: the digits, the first ahead.
Conditions: a number below 65536; the library's table for trailing zeros holds 4 in its place 15.
-/
import Derived.Test.YtgbkeciimddpnaaGreatDoorBase
import Derived.Test.YtgbkeciimddpnaaGreatDoorAddrP
import Derived.LoopTactic
import Derived.LoopN
import Derived.Deep.RegionHeld
import Derived.BigQuiet
import Derived.Deep.QuietTactic
import Derived.BigGuard
import Derived.Lib.ItoaMem
import Derived.Laws.BitsAllLaws
namespace Go.Proofs.YtgbkeciimddpnaaGreatDoor.Print
open Go Go.RowKit Go.Proofs.YtgbkeciimddpnaaGreatDoor.AddrP

theorem tz64 (w : World) (hc : w.cell? ⟨7, 15, none⟩ = some (.int .u8 4)) :
    Calls Tryz.prog 115 #[.int .u64 16] w fun e w' => e = .returned (.int .i64 4) ∧ w' = w := by
  have key : IntKind.u64.wrap (bits BinOp.and IntKind.u64 16 (IntKind.u64.wrap (-16)) * 285870213051353865) / 288230376151711744 = 15 := by decide +kernel
  go_enter Tryz.func115, Tryz.ntmps115
  go_wp2_with (simp only [key])
  go_ret
  exact ⟨rfl, rfl⟩
theorem tz_walk (w : World) (hc : w.cell? ⟨7, 15, none⟩ = some (.int .u8 4)) :
    Calls Tryz.prog 105 #[.int .u64 16] w fun e w' => e = .returned (.int .i64 4) ∧ w' = w := by
  go_enter Tryz.func105, Tryz.ntmps105
  go_wp2_with (go_at_call 115; refine (tz64 _ hc).mono ?_; rintro e w' ⟨rfl, hw⟩; rw [hw])
  go_ret
  exact ⟨rfl, rfl⟩
theorem pow2 (w : World) : Calls Tryz.prog 104 #[.int .i64 16] w fun e w' => e = .returned (.bool true) ∧ w' = w := by
  have key : (bits BinOp.and IntKind.i64 16 15) = 0 := by decide +kernel
  go_enter Tryz.func104, Tryz.ntmps104
  go_wp2_with (simp only [key])
  go_ret
  exact ⟨rfl, rfl⟩
def dig36 : ByteArray := ⟨#[48, 49, 50, 51, 52, 53, 54, 55, 56, 57, 97, 98, 99, 100, 101, 102, 103, 104, 105, 106, 107, 108, 109, 110, 111, 112, 113, 114, 115, 116, 117, 118, 119, 120, 121, 122]⟩
theorem dig36_at (r : Nat) (h : r < 16) (h' : r < dig36.size) : dig36[r]'h' = dg r := by
  have : ∀ r : Fin 16, ∀ h' : r.val < dig36.size, dig36[r.val]'h' = dg r.val := by decide
  exact this ⟨r, h⟩ h'
structure StF (w : World) (p : Nat) (l : List UInt8) (wr : World) : Prop where
  len : p + l.length = 65
  old : ∀ j, j < p → wr.cell? ⟨w.heap.size, j, none⟩ = some (.int .u8 0)
  new : ∀ t (h : t < l.length), wr.cell? ⟨w.heap.size, p + t, none⟩ = some (.int .u8 (l[t].toNat))
  fr : ∀ j, j < 65 → wr.frozen? ⟨w.heap.size, j, none⟩ = false
  bel : Below w.heap.size w wr
theorem stF_next {w wr : World} {p : Nat} {l : List UInt8} (h : StF w p l wr) (hp : 1 ≤ p) (c : UInt8) : StF w (p - 1) (c :: l) (wr.setCell ⟨w.heap.size, p - 1, none⟩ (.int .u8 (c.toNat : Int))) := by
  obtain ⟨h1, h2, h3, h4, h5⟩ := h
  have c0 := h2 (p - 1) (by omega)
  refine ⟨by simp; omega, fun j hj => ?_, fun t ht => ?_, fun j hj => ?_, h5.setCell (by simp) _⟩
  · have := h2 j (by omega)
    rw [World.cell?_setCell_other _ _ _ _ (fun e => by have := congrArg Addr.off e; simp at this; omega)]; exact this
  · cases t with
    | zero => rw [Nat.add_zero, World.cell?_setCell_same _ _ _ c0]; rfl
    | succ t =>
      have ht' : t < l.length := by simpa using ht
      rw [World.cell?_setCell_other _ _ _ _ (fun e => by have := congrArg Addr.off e; simp at this; try omega), show p - 1 + (t + 1) = p + t by omega, h3 t ht']; rfl
  · have := h4 j hj; go_simp
set_option maxRecDepth 100000 in
set_option maxHeartbeats 1600000 in
theorem formatBits_walk (n : Nat) (h : n ≤ 65535) (w : World) (hc : w.cell? ⟨7, 15, none⟩ = some (.int .u8 4)) :
    Calls Tryz.prog 89 #[.slice none 0 0, .int .u64 n, .int .i64 16, .bool false, .bool false] w fun e w' => e = .returned (.tuple #[.slice none 0 0, .string ⟨(digs 16 n).toArray⟩]) ∧ Below w.heap.size w w' := by
  have hc1 : (w.alloc (.cells Tryz.zeroCells130 130)).cell? ⟨7, 15, none⟩ = some (.int .u8 4) := by
    rw [World.cell?_alloc_some _ _ _ (by rw [hc]; rfl)]; exact hc
  have HC := Lib.hid hc1
  clear hc1 hc
  go_enter Tryz.func89, Tryz.ntmps89
  go_wp2_with (first | (go_at_call 104; refine (pow2 _).mono ?_; rintro e w' ⟨rfl, hw⟩; rw [hw]) | (go_at_call 105; refine (tz_walk _ HC.out).mono ?_; rintro e w' ⟨rfl, hw⟩; rw [hw]))
  go_loopw [1, 13] (fun u i wr => ∃ (m p : Nat) (l : List UInt8), m ≤ 65535 ∧ u = .int .u64 m ∧ i = .int .i64 p ∧ Hid (digs 16 n = digs 16 m ++ l) ∧ 62 ≤ p ∧ StF w p l wr) (fun u _ _ => (intOf u).toNat)
  case atStart =>
    refine ⟨n, 65, [], h, rfl, rfl, Lib.hid (by simp), by omega, ⟨rfl, fun j hj => ?_, fun t ht => absurd ht (by simp), fun j hj => by go_simp, (Below.refl _ _).alloc (Nat.le_refl _) _⟩⟩
    rw [World.cell?_alloc_new, show Tryz.zeroCells130 = Array.replicate 65 (.int .u8 0) by kernel_rfl]
    simp [hj]
  case round =>
    obtain ⟨m, p, l, hm, rfl, rfl, hd, hl, hS⟩ := hrel
    by_cases hlt : m < 16
    · have hr : m < 16 := hlt
      have kd := dig36_at m hr
      unfold dig36 at kd
      have hlen := hS.len
      have hp65 : p ≤ 65 := by omega
      have f1 := hS.fr (p - 1) (by omega)
      have c1 := hS.old (p - 1) (by omega)
      have HN := stF_next hS (by omega) (dg m)
      have hfin : digs 16 n = dg m :: l := by rw [hd.out, digs_one hr]; rfl
      have hlen2 : (digs 16 n).length = 66 - p := by rw [hfin]; simp; omega
      have hal : Tryz.prog.arrayLen 130 = 65 := by simp [Program.arrayLen, Tryz.underlying130]
      have hsl : ∀ W, (Instr.sliceAt 130 (.pointer (some ⟨w.heap.size, 0, none⟩)) (some (.int .i64 ((p : Int) - 1))) none none).run Tryz.prog W = .ok (.slice (some ⟨w.heap.size, p - 1, none⟩) (66 - p) (66 - p)) W := fun W => by
        rw [run_sliceAt_array_l W 130 ⟨w.heap.size, 0, none⟩ (by simp [Program.arrayLen, Program.elem, Tryz.underlying130]) .i64 ((p : Int) - 1) (by omega) (by rw [hal]; omega)]
        go_simp
        omega
      obtain ⟨W, hW⟩ : ∃ W, W = wr.setCell ⟨w.heap.size, p - 1, none⟩ (.int .u8 ((dg m).toNat : Int)) := ⟨_, rfl⟩
      rw [← hW] at HN
      have hcv : (convert 91 9 (.slice (some ⟨w.heap.size, p - 1, none⟩) (66 - p) (66 - p))).run Tryz.prog W = .ok (.string ⟨(digs 16 n).toArray⟩) W := by
        have h := run_convert_bytes_back (P := Tryz.prog) W 91 9 5 ⟨w.heap.size, p - 1, none⟩ (66 - p) (digs 16 n) Tryz.underlying91 Tryz.underlying5 Tryz.underlying9 (fun j hj => by
          have hj' : j < (dg m :: l).length := by rw [← hfin]; exact hj
          have := HN.new j hj'
          rw [Lib.add_plain, this]
          simp only [hfin])
        rw [hlen2] at h
        exact h
      have HB := HN.bel
      clear hS hal hfin hlen2 hd HN hlen
      subst hW
      go_wp2
      go_ret2
      exact ⟨rfl, HB⟩
    · have k1 : bits BinOp.and IntKind.u64 (m : Int) 15 = ((m % 16 : Nat) : Int) := by
        have := bits_mask .u64 64 (by decide) (fun n k0 k1 => IntWalk.u64_in n (by omega)) 4 (by omega) (m : Int) (by omega) (by omega)
        simpa using this
      have hr : m % 16 < 16 := by omega
      obtain ⟨r, hre⟩ : ∃ r, r = m % 16 := ⟨_, rfl⟩
      rw [← hre] at k1 hr
      have kd := dig36_at r hr
      unfold dig36 at kd
      have hp65 : p ≤ 65 := by have := hS.len; omega
      have f1 := hS.fr (p - 1) (by omega)
      have c1 := hS.old (p - 1) (by omega)
      have HN := stF_next hS (by omega) (dg r)
      have hlen := hS.len
      have hN : Hid (digs 16 n = digs 16 (m / 16) ++ dg r :: l) := Lib.hid (by rw [hd.out, digs_more hlt (by omega), ← hre]; simp)
      have h4 := digs_len (b := 16) (by omega) 3 n (by omega)
      have hp' : 62 ≤ p - 1 := by
        have e1 := congrArg List.length hd.out
        rw [digs_more hlt (by omega), List.length_append, List.length_append] at e1
        have e2 : 1 ≤ (digs 16 (m / 16)).length := by
          have := digs_ne 16 (m / 16) (by omega)
          cases hx : digs 16 (m / 16) with
          | nil => exact absurd hx this
          | cons a b => simp
        simp at e1
        omega
      clear hS hre hd h4 hlen
      go_wp2
      go_roundw
      case rel => exact ⟨m / 16, p - 1, dg r :: l, by omega, by go_num, by go_num, hN, hp', HN⟩
      case measure => simp [intOf]; omega
set_option maxHeartbeats 1600000 in
theorem formatUint_inner (n : Nat) (h : n ≤ 65535) (w : World) (hc : w.cell? ⟨7, 15, none⟩ = some (.int .u8 4)) :
    Calls Tryz.prog 85 #[.int .u64 n, .int .i64 16] w fun e w' => e = .returned (.string ⟨(digs 16 n).toArray⟩) ∧ Below w.heap.size w w' := by
  have HC := Lib.hid hc
  clear hc
  go_enter Tryz.func85, Tryz.ntmps85
  go_wp2_with (go_at_call 89; refine (formatBits_walk n h _ HC.out).mono ?_; rintro e w' ⟨rfl, hb⟩)
  go_ret
  exact ⟨rfl, hb⟩
theorem formatUint_calls (n : Nat) (h : n ≤ 65535) (w : World) (hc : w.cell? ⟨7, 15, none⟩ = some (.int .u8 4)) :
    Calls Tryz.prog 67 #[.int .u64 n, .int .i64 16] w fun e w' => e = .returned (.string ⟨(digs 16 n).toArray⟩) ∧ Below w.heap.size w w' := by
  have HC := Lib.hid hc
  clear hc
  go_enter Tryz.func67, Tryz.ntmps67
  go_wp2_with (go_at_call 85; refine (formatUint_inner n h _ HC.out).mono ?_; rintro e w' ⟨rfl, hb⟩)
  go_ret
  exact ⟨rfl, hb⟩
end Go.Proofs.YtgbkeciimddpnaaGreatDoor.Print
