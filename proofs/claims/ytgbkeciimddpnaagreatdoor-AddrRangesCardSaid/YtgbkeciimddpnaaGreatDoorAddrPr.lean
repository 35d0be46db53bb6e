/-
The walk of addr.Print: an address in text.
Conditions: numbers of 64 bits; the library's tables hold what they hold.
-/
import Derived.Test.YtgbkeciimddpnaaGreatDoorAddrH
import Derived.Deep.RegionHeld3
import Derived.Test.YtgbkeciimddpnaaGreatDoorPrint6
namespace Go.Proofs.YtgbkeciimddpnaaGreatDoor.Print
open Go Go.RowKit Go.Proofs.YtgbkeciimddpnaaGreatDoor.AddrP
open Go.Sort (grow)

/-- The library's tables that the printing uses. -/
structure PrVars (w : World) : Prop where
  tab : Lib.TabIs Tryz.prog w "internal/strconv.uint64pow10" .u64 Lib.pow10Tab
  tz : w.cell? ⟨7, 15, none⟩ = some (.int .u8 4)
theorem tabIs_below {w w' : World} (h : Lib.TabIs Tryz.prog w "internal/strconv.uint64pow10" .u64 Lib.pow10Tab) (hb : Below w.heap.size w w') : Lib.TabIs Tryz.prog w' "internal/strconv.uint64pow10" .u64 Lib.pow10Tab := by
  have hg : Tryz.prog.globalNamed "internal/strconv.uint64pow10" = some 3 := by kernel_rfl
  have h0 := h.cell hg 0 (by decide)
  have hlt := lt_of_cell h0
  unfold Lib.TabIs World.var? at h ⊢
  rw [hg] at h ⊢
  simp only [Option.bind_some] at h ⊢
  rw [hb.block 3 hlt]
  exact h
theorem PrVars.below {w w' : World} (h : PrVars w) (hb : Below w.heap.size w w') : PrVars w' :=
  ⟨tabIs_below h.tab hb, (hb.cell (p := ⟨7, 15, none⟩) (lt_of_cell h.tz)).trans h.tz⟩
theorem below_grow (w : World) (n : Nat) (os : Array Obj) : Below w.heap.size w (grow (w.drewN n) os) :=
  ⟨rfl, rfl, rfl, by simp [grow], fun k hk => by
    have : (grow (w.drewN n) os).heap[k]? = (w.heap ++ os)[k]? := rfl
    rw [this, Array.getElem?_append_left hk]⟩
theorem itoa_calls (n : Nat) (h : n ≤ 9223372036854775807) (w : World) (hv : PrVars w) : Calls Tryz.prog 27 #[.int .i64 n] w fun e w' => e = .returned (.string (mkB (digs 10 n))) ∧ Below w.heap.size w w' := by
  refine (Tryz.strconv_Itoa n (by omega) (by omega) w hv.tab).mono fun e w' h => ?_
  obtain ⟨h1, k, os, h2⟩ := h
  refine ⟨?_, h2 ▸ below_grow w k os⟩
  rw [h1, Lib.itoa_nonneg, digs_ten]
  rfl
def oct (lo k : Nat) : Nat := lo / 2 ^ (24 - 8 * k) % 256
theorem four_oct (lo : Nat) : four lo = (List.range 4).map (oct lo) := by
  simp [four, oct, List.range, List.range.loop]
theorem oct_run (lo k : Nat) (h : lo < 18446744073709551616) : bits BinOp.and IntKind.u64 ((lo : Int) / 2 ^ (24 - 8 * k)) 255 = ((oct lo k : Nat) : Int) := by
  have e : ((lo : Int) / 2 ^ (24 - 8 * k)) = ((lo / 2 ^ (24 - 8 * k) : Nat) : Int) := by simp
  have hle : lo / 2 ^ (24 - 8 * k) ≤ lo := Nat.div_le_self _ _
  rw [e]
  generalize hq : lo / 2 ^ (24 - 8 * k) = q at hle
  have := bits_mask .u64 64 (by decide) (fun n k0 k1 => IntWalk.u64_in n (by omega)) 8 (by omega) (q : Int) (by omega) (by omega)
  have h2 : bits BinOp.and IntKind.u64 (q : Int) 255 = (q : Int) % 256 := by simpa using this
  rw [h2]
  unfold oct
  rw [hq]
  omega

set_option maxRecDepth 100000 in
set_option maxHeartbeats 6400000 in
theorem print_four (lo : Nat) (hlo : lo < 18446744073709551616) (w : World) (hv : PrVars w) (hi4 : ∀ w1 : World, Calls Tryz.prog 13 #[.agg #[.int .u64 0, .int .u64 lo]] w1 fun e w' => e = .returned (.bool true) ∧ Below w1.heap.size w1 w') :
    Calls Tryz.prog 25 #[.agg #[.int .u64 0, .int .u64 lo]] w fun e w' => e = .returned (.string (mkB (pr4 lo))) ∧ Below w.heap.size w w' := by
  obtain ⟨i0, hi, hz0, hz1, hz2⟩ := info_parts Tryz.info9
  have HV := Lib.hid hv
  have HI := Lib.hid hi4
  obtain ⟨f, hf⟩ : ∃ f : Nat → ByteArray, f = fun k => mkB (digs 10 (oct lo k)) := ⟨_, rfl⟩
  have HF := Lib.hid hf
  clear hv hi4 hf
  go_enter Tryz.func25, Tryz.ntmps25
  go_wp2_with (go_at_call 13; refine (HI.out _).mono ?_; rintro e w1 ⟨rfl, hb1⟩)
  have hB1 := bnext (ba1 w (.cells #[.int .u64 0, .int .u64 lo] 24)) hb1
  have hbox0 : w1.cell? ⟨w.heap.size, 1, none⟩ = some (.int .u64 lo) := (hb1.cell (p := ⟨w.heap.size, 1, none⟩) (by simp)).trans (by go_simp)
  have hs1 : w.heap.size + 1 ≤ w1.heap.size := by have := hb1.size; simpa using this
  go_loopw [3, 4] (fun v i wr => ∃ k : Nat, k ≤ 4 ∧ i = .int .i64 (24 - 8 * (k : Int)) ∧ wr.ownsRow (w.heap.size + 1) 9 1 v k (((List.range k).map f).map Value.string) ∧ Below (w.heap.size + 1) w1 wr) (fun _ i _ => (intOf i + 8).toNat)
  case atStart => exact ⟨0, by omega, rfl, World.ownsRow_nil _ _ _ _, Below.refl _ _⟩
  case round =>
    obtain ⟨k, hk, rfl, hown, hBel⟩ := hrel
    have hs2 := hBel.size
    by_cases hlt : k < 4
    · have hcell : wr.cell? ⟨w.heap.size, 1, none⟩ = some (.int .u64 lo) := (hBel.cell (p := ⟨w.heap.size, 1, none⟩) (by simp)).trans hbox0
      have hrun := oct_run lo k hlo
      have ho6 : oct lo k ≤ 255 := by unfold oct; omega
      have hV2 : PrVars wr := HV.out.below (hB1.trans (hBel.mono (by omega)))
      have hit := itoa_calls (oct lo k) (by omega) wr hV2
      have hfx : mkB (digs 10 (oct lo k)) = f k := by rw [HF.out]
      rw [hfx] at hit
      have HIT := Lib.hid hit
      have HO := Lib.hid hown
      have hcv : IntKind.u64.wrap (24 - 8 * (k : Int)) = 24 - 8 * (k : Int) := IntWalk.u64_in _ (by omega)
      generalize oct lo k = y at hrun ho6 HIT
      clear hit hown hfx hV2
      go_wp2_with (first
        | (go_at_call 27; refine HIT.out.mono ?_; rintro e w2 ⟨rfl, hb⟩)
        | (at_builtin; refine wpList_append_own _ rfl (.tmp 16) (.tmp 25) 60 rfl (w.heap.size + 1) 9 i0 (.string ⟨#[]⟩) 1 16 Tryz.underlying60 hi hz0 hz1 hz2 rfl (by decide) _ _ _ rfl ((own_below HO.out hb).alloc _) ⟨w2.heap.size, 0, none⟩ 1 1 [.string (f k)] rfl rfl ?c1 ?c2 ?c3 ?c4 ?c5 ?_))
      case c1 =>
        intro j u hj
        match j, hj with
        | 0, hj => simp at hj; subst hj; simp [Addr.add]
      case c2 => intro u hu; simp at hu; subst hu; rfl
      case c3 => unfold maxLen; omega
      case c4 => omega
      case c5 => have := hb.size; simp; omega
      intro v' w3 hown' hgrow _
      have hsz1 := hb.size
      have HB2 : Below (w.heap.size + 1) w1 w3 := (((hBel.trans (hb.mono (by omega))).alloc (by omega) _).grown hgrow (by simp; omega) (fun j hj => (HO.out.lt j hj).1))
      have HO2 : w3.ownsRow (w.heap.size + 1) 9 1 v' (k + 1) (((List.range (k + 1)).map f).map Value.string) := by rw [List.range_succ]; simpa using hown'
      clear hown' hgrow HO hb
      go_wp2_with fail
      go_roundw
      case rel => exact ⟨k + 1, by omega, by go_num, HO2, HB2⟩
      case measure => simp [intOf]; omega
    · obtain rfl : k = 4 := by omega
      obtain ⟨A2, cap2, hu3, hj⟩ := join_own ((List.range 4).map f) ⟨#[46]⟩ u3 (w.heap.size + 1) wr (by simpa using hown) (by simp) (fun x hx => by
        obtain ⟨n, hn, rfl⟩ := List.mem_map.mp hx
        have := digs_len (b := 10) (by omega) 2 (oct lo n) (by unfold oct; omega)
        rw [HF.out]
        show (digs 10 (oct lo n)).toArray.size ≤ _
        simp; omega) (by decide)
      have e : mkB (Lib.join (((List.range 4).map f).map (·.data.toList)) (⟨#[46]⟩ : ByteArray).data.toList) = mkB (pr4 lo) := by
        rw [HF.out]
        unfold pr4
        rw [four_oct]
        congr 2
      rw [e] at hj
      have hl4 : ((List.range 4).map f).length = 4 := by simp
      rw [hl4] at hu3 hj
      subst hu3
      have HJ := Lib.hid hj
      clear hj hown e hl4
      go_wp2_with (go_at_call 39; refine HJ.out.mono ?_; rintro e w3 ⟨rfl, hb⟩)
      go_ret
      exact ⟨rfl, bnext (hB1.trans (hBel.mono (by omega))) hb⟩

theorem slice_from (g l : Nat) (hl : l ≤ 8) : ∃ o, (l < 8 → o = l) ∧ ∀ W, (Instr.sliceAt 63 (.pointer (some ⟨g, 0, none⟩)) (some (.int .i64 (l : Int))) none none).run Tryz.prog W = .ok (.slice (some ⟨g, o, none⟩) (8 - l) (8 - l)) W := by
  have hal : Tryz.prog.arrayLen 63 = 8 := by simp [Program.arrayLen, Tryz.underlying63]
  by_cases h : l = 8
  · subst h
    refine ⟨0, fun h => absurd h (by omega), fun W => ?_⟩
    rw [run_sliceAt_array_l W 63 ⟨g, 0, none⟩ (by simp [Program.arrayLen, Program.elem, Tryz.underlying63]) .i64 ((8 : Nat) : Int) (by omega) (by rw [hal]; omega)]
    go_simp
  · refine ⟨l, fun _ => rfl, fun W => ?_⟩
    rw [run_sliceAt_array_l W 63 ⟨g, 0, none⟩ (by simp [Program.arrayLen, Program.elem, Tryz.underlying63]) .i64 (l : Int) (by omega) (by rw [hal]; omega)]
    go_simp
    omega
theorem slice_to (g h : Nat) (hh : h ≤ 8) : ∀ W, (Instr.sliceAt 63 (.pointer (some ⟨g, 0, none⟩)) none (some (.int .i64 (h : Int))) none).run Tryz.prog W = .ok (.slice (some ⟨g, 0, none⟩) h 8) W := by
  have hal : Tryz.prog.arrayLen 63 = 8 := by simp [Program.arrayLen, Tryz.underlying63]
  intro W
  rw [run_sliceAt_array_h W 63 ⟨g, 0, none⟩ (by simp [Program.arrayLen, Program.elem, Tryz.underlying63]) .i64 (h : Int) (by omega) (by rw [hal]; omega)]
  go_simp
theorem hexs_len (l : List Nat) (hl : l.length ≤ 8) (hb : ∀ n ∈ l, n ≤ 65535) : (hexs l).length ≤ 64 := by
  unfold hexs
  refine Nat.le_trans (join_len [58] (l.map (digs 16)) 5 (fun x hx => ?_)) ?_
  · obtain ⟨n, hn, rfl⟩ := List.mem_map.mp hx
    have := digs_len (b := 16) (by omega) 3 n (by have := hb n hn; omega)
    omega
  · simp; omega
/-- The groups lie in a block. -/
structure Grp8 (b : Nat) (g : List Nat) (w : World) : Prop where
  len : g.length = 8
  le : ∀ n ∈ g, n ≤ 65535
  cell : ∀ (j : Nat) (x : Nat), g[j]? = some x → w.cell? ⟨b, j, none⟩ = some (.int .u16 (x : Int))
  lt : b < w.heap.size
theorem zrun_step (g : List Nat) (i j : Nat) (hi : i ≤ j) (hj : j ≤ i + zrun (g.drop i)) (x : Nat) (hx : g[j]? = some x) : (x = 0 → j + 1 ≤ i + zrun (g.drop i)) ∧ (x ≠ 0 → j = i + zrun (g.drop i)) := by
  obtain ⟨d, rfl⟩ : ∃ d, j = i + d := ⟨j - i, by omega⟩
  have hx' : (g.drop i)[d]? = some x := by rw [List.getElem?_drop]; exact hx
  generalize g.drop i = l at hj hx'
  have aux : ∀ (l : List Nat) (d : Nat), d ≤ zrun l → l[d]? = some x → (x = 0 → d + 1 ≤ zrun l) ∧ (x ≠ 0 → d = zrun l) := by
    intro l
    induction l with
    | nil => intro d _ h; simp at h
    | cons n l ih =>
      intro d hd h
      cases d with
      | zero =>
        simp only [List.getElem?_cons_zero, Option.some.injEq] at h
        subst h
        unfold zrun
        constructor
        · intro e; rw [if_pos e]; omega
        · intro e; rw [if_neg e]
      | succ d =>
        unfold zrun at hd ⊢
        split at hd
        · next e =>
          rw [if_pos e]
          have := ih d (by omega) (by simpa using h)
          exact ⟨fun e => by have := this.1 e; omega, fun e => by have := this.2 e; omega⟩
        · omega
  have := aux l d (by omega) hx'
  exact ⟨fun e => by have := this.1 e; omega, fun e => by have := this.2 e; omega⟩
theorem zrun_end (g : List Nat) (i j : Nat) (hi : i ≤ g.length) (hj : j ≤ i + zrun (g.drop i)) (hl : g.length ≤ j) : j = i + zrun (g.drop i) := by
  have := zrun_le (g.drop i)
  rw [List.length_drop] at this
  omega
def bestTo (g : List Nat) (k : Nat) : Nat × Nat := (List.range k).foldl (bestStep g) (0, 0)
theorem bestTo_succ (g : List Nat) (k : Nat) : bestTo g (k + 1) = bestStep g (bestTo g k) k := by
  unfold bestTo
  rw [List.range_succ, List.foldl_append]
  rfl
theorem bestTo_le (g : List Nat) (hg : g.length = 8) : ∀ k, k ≤ 8 → (bestTo g k).1 ≤ 8 ∧ (bestTo g k).2 ≤ 8
  | 0, _ => by simp [bestTo]
  | k + 1, h => by
    have ih := bestTo_le g hg k (by omega)
    rw [bestTo_succ]
    unfold bestStep
    split
    · have := zrun_le (g.drop k)
      rw [List.length_drop] at this
      exact ⟨by show k ≤ 8; omega, by show zrun (g.drop k) ≤ 8; omega⟩
    · exact ih

set_option maxRecDepth 100000 in
set_option maxHeartbeats 12800000 in
theorem print_six (a0 a1 : Int) (g : List Nat) (w : World) (hv : PrVars w) (hi4 : ∀ w1 : World, Calls Tryz.prog 13 #[.agg #[.int .u64 a0, .int .u64 a1]] w1 fun e w' => e = .returned (.bool false) ∧ Below w1.heap.size w1 w')
    (hg8 : g.length = 8) (hgb : ∀ n ∈ g, n ≤ 65535) (G : Nat → Int) (hG : ∀ (j x : Nat), g[j]? = some x → G j = (x : Int))
    (hgr : ∀ w1 : World, Calls Tryz.prog 40 #[.agg #[.int .u64 a0, .int .u64 a1]] w1 fun e w' => e = .returned (.agg #[.int .u16 (G 0), .int .u16 (G 1), .int .u16 (G 2), .int .u16 (G 3), .int .u16 (G 4), .int .u16 (G 5), .int .u16 (G 6), .int .u16 (G 7)]) ∧ Below w1.heap.size w1 w') :
    Calls Tryz.prog 25 #[.agg #[.int .u64 a0, .int .u64 a1]] w fun e w' => e = .returned (.string (mkB (pr6 g))) ∧ Below w.heap.size w w' := by
  have HV := Lib.hid hv
  have HI := Lib.hid hi4
  have HGR := Lib.hid hgr
  have HGB := Lib.hid hgb
  have HG := Lib.hid hG
  clear hv hi4 hgr hgb hG
  go_enter Tryz.func25, Tryz.ntmps25
  go_wp2_with (go_at_call 13; refine (HI.out _).mono ?_; rintro e w1 ⟨rfl, hb1⟩; have hx0 : w1.cell? ⟨w.heap.size, 0, none⟩ = some (.int .u64 a0) := (hb1.cell (p := ⟨w.heap.size, 0, none⟩) (by simp)).trans (by go_simp); have hx1 : w1.cell? ⟨w.heap.size, 1, none⟩ = some (.int .u64 a1) := (hb1.cell (p := ⟨w.heap.size, 1, none⟩) (by simp)).trans (by go_simp))
  go_at_call 40
  refine (HGR.out _).mono ?_
  rintro e w2 ⟨rfl, hb2⟩
  have hB1 := bnext (ba1 w (.cells #[.int .u64 a0, .int .u64 a1] 24)) hb1
  have hB2 := bnext hB1 hb2
  clear hx0 hx1 hb1 hb2 hB1
  go_wp2_with fail
  obtain ⟨W, hW⟩ : ∃ W, W = w2.alloc (.cells #[.int .u16 (G 0), .int .u16 (G 1), .int .u16 (G 2), .int .u16 (G 3), .int .u16 (G 4), .int .u16 (G 5), .int .u16 (G 6), .int .u16 (G 7)] 63) := ⟨_, rfl⟩
  have hBW : Below w.heap.size w W := by rw [hW]; exact ba hB2 _
  have hcells : ∀ (j x : Nat), g[j]? = some x → W.cell? ⟨w2.heap.size, j, none⟩ = some (.int .u16 (x : Int)) := by
    intro j x hj
    have hj8 : j < 8 := by
      rcases Nat.lt_or_ge j 8 with h | h
      · exact h
      · rw [List.getElem?_eq_none (by omega)] at hj; cases hj
    have := HG.out j x hj
    rw [← this, hW]
    rcases (by omega : j = 0 ∨ j = 1 ∨ j = 2 ∨ j = 3 ∨ j = 4 ∨ j = 5 ∨ j = 6 ∨ j = 7) with rfl | rfl | rfl | rfl | rfl | rfl | rfl | rfl <;> go_simp
  have hlt : w2.heap.size < W.heap.size := by rw [hW]; simp
  rw [← hW]
  have HCE := Lib.hid hcells
  clear hW hcells HI HGR HG
  generalize w2.heap.size = gb at HCE hlt ⊢
  go_loop [6, 7, 31] (fun at_ lg i => ∃ k : Nat, k ≤ 8 ∧ at_ = .int .i64 ((bestTo g k).1 : Int) ∧ lg = .int .i64 ((bestTo g k).2 : Int) ∧ i = .int .i64 k) (fun _ _ i => 8 - (intOf i).toNat)
  case atStart => exact ⟨0, by omega, rfl, rfl, rfl⟩
  case round =>
    obtain ⟨k, hk, rfl, rfl, rfl⟩ := hrel
    by_cases hk8 : k < 8
    · obtain ⟨bl1, bl2⟩ := bestTo_le g hg8 k hk
      have hz := zrun_le (g.drop k)
      rw [List.length_drop, hg8] at hz
      have hstep := bestTo_succ g k
      unfold bestStep at hstep
      have HST := Lib.hid hstep
      clear hstep
      obtain ⟨p1, hp1⟩ : ∃ p1, p1 = (bestTo g k).1 := ⟨_, rfl⟩
      obtain ⟨p2, hp2⟩ : ∃ p2, p2 = (bestTo g k).2 := ⟨_, rfl⟩
      obtain ⟨z, hzz⟩ : ∃ z, z = zrun (g.drop k) := ⟨_, rfl⟩
      rw [← hp1] at bl1 ⊢
      rw [← hp2] at bl2 ⊢
      rw [← hzz] at hz
      have HP : Hid (bestTo g (k + 1) = if p2 < z then (k, z) else (p1, p2)) := Lib.hid (by
        rw [HST.out, ← hp2, ← hzz]
        by_cases h : p2 < z
        · rw [if_pos h, if_pos h]
        · rw [if_neg h, if_neg h, hp1, hp2])
      have HZ := Lib.hid hzz
      clear hp1 hp2 hzz HST
      go_wp2_with fail
      go_loop [9] (fun n => ∃ j : Nat, k ≤ j ∧ j ≤ k + z ∧ n = .int .i64 j) (fun n => 8 - (intOf n).toNat)
      case atStart => exact ⟨k, by omega, by omega, rfl⟩
      case round =>
        obtain ⟨j, hj1, hj2, rfl⟩ := hrel
        by_cases hj8 : j < 8
        · obtain ⟨x, hx⟩ : ∃ x, g[j]? = some x := ⟨_, List.getElem?_eq_getElem (by omega)⟩
          have hc := HCE.out j x hx
          have hs := zrun_step g k j hj1 (by rw [← HZ.out]; exact hj2) x hx
          rw [← HZ.out] at hs
          by_cases hx0 : x = 0
          · subst hx0
            have hs1 := hs.1 rfl
            clear hs hx
            go_wp2_with fail
            go_round
            case rel => exact ⟨j + 1, by omega, by omega, by go_num⟩
            case measure => simp [intOf]; omega
          · have hs2 := hs.2 hx0
            have hxb : ((x : Int) == 0) = false := by rw [beq_eq_false_iff_ne]; omega
            clear hs hx hx0
            by_cases hpz : p2 < z
            · have hP := HP.out
              rw [if_pos hpz] at hP
              have HP2 := Lib.hid hP
              have hgt : (p2 : Int) < (j : Int) - (k : Int) := by omega
              have HS2 := Lib.hid hs2
              clear hP hs2 hpz
              go_wp2_with fail
              go_round
              case rel => exact ⟨k + 1, by omega, by rw [HP2.out], by rw [HP2.out, HS2.out]; go_num, by go_num⟩
              case measure => simp [intOf]; omega
            · have hP := HP.out
              rw [if_neg hpz] at hP
              have HP2 := Lib.hid hP
              have hgt : (j : Int) - (k : Int) ≤ (p2 : Int) := by omega
              clear hP hs2 hpz
              go_wp2_with fail
              go_round
              case rel => exact ⟨k + 1, by omega, by rw [HP2.out], by rw [HP2.out], by go_num⟩
              case measure => simp [intOf]; omega
        · have hs2 : j = k + z := by have := zrun_end g k j (by omega) (by rw [← HZ.out]; exact hj2) (by omega); rw [HZ.out]; exact this
          by_cases hpz : p2 < z
          · have hP := HP.out
            rw [if_pos hpz] at hP
            have HP2 := Lib.hid hP
            have hgt : (p2 : Int) < (j : Int) - (k : Int) := by omega
            have HS2 := Lib.hid hs2
            clear hP hs2 hpz
            go_wp2_with fail
            go_round
            case rel => exact ⟨k + 1, by omega, by rw [HP2.out], by rw [HP2.out, HS2.out]; go_num, by go_num⟩
            case measure => simp [intOf]; omega
          · have hP := HP.out
            rw [if_neg hpz] at hP
            have HP2 := Lib.hid hP
            have hgt : (j : Int) - (k : Int) ≤ (p2 : Int) := by omega
            clear hP hs2 hpz
            go_wp2_with fail
            go_round
            case rel => exact ⟨k + 1, by omega, by rw [HP2.out], by rw [HP2.out], by go_num⟩
            case measure => simp [intOf]; omega
    · obtain rfl : k = 8 := by omega
      have hbest : bestTo g 8 = best g := rfl
      rw [hbest]
      obtain ⟨bl1, bl2⟩ := bestTo_le g hg8 8 (by omega)
      rw [hbest] at bl1 bl2
      by_cases h2 : (best g).2 < 2
      · have hh := hexed_calls (some ⟨gb, 0, none⟩) 8 g (by omega) HGB.out W (HV.out.below hBW).tz (fun _ => ⟨gb, 0, rfl, hlt, fun j x hj => by rw [Nat.zero_add]; exact HCE.out j x hj⟩)
        rw [hg8] at hh
        have hp6 : pr6 g = hexs g := by unfold pr6; rw [if_pos h2]
        have HH := Lib.hid hh
        have h2' : ((best g).2 : Int) < 2 := by omega
        have HP6 := Lib.hid hp6
        clear hh hbest hp6
        generalize (best g).1 = p1 at bl1
        generalize (best g).2 = p2 at bl2 h2 h2'
        go_wp2_with (go_at_call 41; refine HH.out.mono ?_; rintro e w3 ⟨rfl, hb⟩)
        go_ret
        exact ⟨ret_str (by rw [HP6.out]), bnext hBW hb⟩
      · have hp6 : pr6 g = hexs (g.take (best g).1) ++ [58, 58] ++ hexs (g.drop ((best g).1 + (best g).2)) := by unfold pr6; rw [if_neg h2]
        obtain ⟨hp8, _⟩ := best_parts g (by omega)
        rw [hg8] at hp8
        have h2' : 2 ≤ ((best g).2 : Int) := by omega
        clear hbest
        generalize (best g).1 = p1 at bl1 hp8 hp6
        generalize (best g).2 = p2 at bl2 h2 h2' hp8 hp6
        obtain ⟨q, hq⟩ : ∃ q, q = p1 + p2 := ⟨_, rfl⟩
        rw [← hq] at hp6
        have hq8 : q ≤ 8 := by omega
        have hsum : IntKind.i64.wrap ((p1 : Int) + (p2 : Int)) = (q : Int) := by rw [hq]; exact IntWalk.i64_in _ (by omega)
        have hsl1 := slice_to gb p1 bl1
        obtain ⟨o, ho, hsl2⟩ := slice_from gb q hq8
        have hA : ∀ w', Below W.heap.size W w' → Calls Tryz.prog 41 #[.slice (some ⟨gb, 0, none⟩) p1 8] w' fun e w'' => e = .returned (.string (mkB (hexs (g.take p1)))) ∧ Below w'.heap.size w' w'' := by
          intro w' hb'
          have := hexed_calls (some ⟨gb, 0, none⟩) 8 (g.take p1) (by rw [List.length_take]; omega) (fun n hn => HGB.out n (List.mem_of_mem_take hn)) w' ((HV.out.below hBW).below hb').tz (fun _ => ⟨gb, 0, rfl, Nat.lt_of_lt_of_le hlt hb'.size, fun j x hj => by
            rw [Nat.zero_add]
            have hj' : j < (g.take p1).length := by
              rcases Nat.lt_or_ge j (g.take p1).length with h | h
              · exact h
              · rw [List.getElem?_eq_none h] at hj; cases hj
            rw [List.length_take] at hj'
            rw [List.getElem?_take_of_lt (by omega)] at hj
            exact (hb'.cell (p := ⟨gb, j, none⟩) hlt).trans (HCE.out j x hj)⟩)
          have e : (g.take p1).length = p1 := by rw [List.length_take]; omega
          rw [e] at this
          exact this
        have hB : ∀ w', Below W.heap.size W w' → Calls Tryz.prog 41 #[.slice (some ⟨gb, o, none⟩) (8 - q) (8 - q)] w' fun e w'' => e = .returned (.string (mkB (hexs (g.drop q)))) ∧ Below w'.heap.size w' w'' := by
          intro w' hb'
          have e : (g.drop q).length = 8 - q := by rw [List.length_drop]; omega
          have := hexed_calls (some ⟨gb, o, none⟩) (8 - q) (g.drop q) (by omega) (fun n hn => HGB.out n (List.mem_of_mem_drop hn)) w' ((HV.out.below hBW).below hb').tz (fun hpos => ⟨gb, o, rfl, Nat.lt_of_lt_of_le hlt hb'.size, fun j x hj => by
            rw [ho (by omega)]
            rw [List.getElem?_drop] at hj
            exact (hb'.cell (p := ⟨gb, q + j, none⟩) hlt).trans (HCE.out (q + j) x hj)⟩)
          rw [e] at this
          exact this
        obtain ⟨X, hX⟩ : ∃ X, X = mkB (hexs (g.take p1)) := ⟨_, rfl⟩
        obtain ⟨Y, hY⟩ : ∃ Y, Y = mkB (hexs (g.drop q)) := ⟨_, rfl⟩
        have hlX : X.size ≤ 64 := by rw [hX]; have := hexs_len (g.take p1) (by rw [List.length_take]; omega) (fun n hn => HGB.out n (List.mem_of_mem_take hn)); rw [Lib.size_eq]; exact this
        have hlY : Y.size ≤ 64 := by rw [hY]; have := hexs_len (g.drop q) (by rw [List.length_drop]; omega) (fun n hn => HGB.out n (List.mem_of_mem_drop hn)); rw [Lib.size_eq]; exact this
        have hres : X ++ ⟨#[58, 58]⟩ ++ Y = mkB (hexs (g.take p1) ++ [58, 58] ++ hexs (g.drop q)) := by
          rw [hX, hY]
          apply ByteArray.ext
          apply Array.toList_inj.mp
          simp [mkB]
        rw [← hX] at hA
        rw [← hY] at hB
        rw [← hp6] at hres
        have hs1 : ¬ 9223372036854775807 < X.size + 2 := by omega
        have hs2 : ¬ 9223372036854775807 < X.size + 2 + Y.size := by omega
        have HRES := Lib.hid hres
        have HA := Lib.hid hA
        have HBB := Lib.hid hB
        clear hA hB hX hY hres hq ho h2 hp6
        go_wp2_with fail
        go_region_held3 (fun w' => Below W.heap.size W w') (first | exact (Below.refl _ _).drew | (refine Below.drew ?_; assumption) | exact bnext (by assumption) hb | (refine bnext (by assumption) ?_; assumption) | assumption)
          (first | (go_at_call 41; (with_reducible refine (HA.out _ (by assumption)).mono ?_); rintro e w' ⟨rfl, hb⟩) | (go_at_call 41; (with_reducible refine (HBB.out _ (by assumption)).mono ?_); rintro e w' ⟨rfl, hb⟩))
        go_wp2_with fail
        go_ret
        exact ⟨ret_str HRES.out, bnext hBW (by assumption)⟩

theorem lay_grp (hi lo j x : Nat) (h : (grp hi lo)[j]? = some x) : lay hi lo 4 j = (x : Int) := by
  have hj8 : j < 8 := by
    rcases Nat.lt_or_ge j 8 with h' | h'
    · exact h'
    · rw [List.getElem?_eq_none (by rw [grp_len]; omega)] at h; cases h
  unfold lay grp quad at *
  rcases (by omega : j = 0 ∨ j = 1 ∨ j = 2 ∨ j = 3 ∨ j = 4 ∨ j = 5 ∨ j = 6 ∨ j = 7) with rfl | rfl | rfl | rfl | rfl | rfl | rfl | rfl <;>
    (simp only [List.cons_append, List.nil_append, List.getElem?_cons_zero, List.getElem?_cons_succ, Option.some.injEq] at h; subst h; simp [IntKind.wrap_u16])
theorem is4_calls (hi lo : Nat) (w : World) : Calls Tryz.prog 13 #[.agg #[.int .u64 hi, .int .u64 lo]] w fun e w' => e = .returned (.bool (isFour hi lo)) ∧ Below w.heap.size w w' :=
  addr_Is4.calls hi lo _ w (by
    unfold addr_Is4.f isFour
    by_cases h : hi = 0
    · subst h
      rw [if_pos (by rfl)]
      by_cases h2 : lo / 4294967296 = 65535
      · rw [decide_eq_true h2, show (((lo : Int) / 4294967296) == 65535) = true by rw [beq_iff_eq]; omega]; rfl
      · rw [decide_eq_false h2, show (((lo : Int) / 4294967296) == 65535) = false by rw [beq_eq_false_iff_ne]; omega]; rfl
    · rw [if_neg (by omega), decide_eq_false h]; rfl)
/-- addr.Print. -/
theorem print_calls (hi lo : Nat) (h1 : hi < 18446744073709551616) (h2 : lo < 18446744073709551616) (w : World) (hv : PrVars w) :
    Calls Tryz.prog 25 #[.agg #[.int .u64 hi, .int .u64 lo]] w fun e w' => e = .returned (.string (mkB (prA hi lo))) ∧ Below w.heap.size w w' := by
  unfold prA
  by_cases h4 : isFour hi lo = true
  · rw [if_pos h4]
    have h0 : hi = 0 := by unfold isFour at h4; simp at h4; exact h4.1
    subst h0
    exact print_four lo h2 w hv (fun w1 => by have := is4_calls 0 lo w1; rw [h4] at this; exact this)
  · rw [if_neg h4]
    have h4' : isFour hi lo = false := by simpa using h4
    refine print_six hi lo (grp hi lo) w hv (fun w1 => by have := is4_calls hi lo w1; rw [h4'] at this; exact this) rfl (grp_le hi lo) (lay hi lo 4) (fun j x hj => lay_grp hi lo j x hj) (fun w1 => groups_walk hi lo (by omega) (by omega) (lay hi lo 4) (Lib.hid (fun _ _ => rfl)) w1)
end Go.Proofs.YtgbkeciimddpnaaGreatDoor.Print
