/-
The walk of addr.read: what may be an address, in all ways.
Conditions: texts shorter than 4294967281 bytes; the library's variables hold what they hold.
-/
import Derived.Test.YtgbkeciimddpnaaGreatDoorAddrR2
namespace Go.Proofs.YtgbkeciimddpnaaGreatDoor.Print
open Go Go.RowKit Go.Proofs.YtgbkeciimddpnaaGreatDoor.AddrP
theorem cell_vals {w : World} {g : Nat} {l : List Nat} {t : TypeId} (h : w.heap[g]? = some (.cells (vals l).toArray t (0, 0))) (j : Nat) (hj : j < l.length) : w.cell? ⟨g, j, none⟩ = some (.int .u16 ((l.getD j 0 : Nat) : Int)) := by
  have e : (vals l).toArray[j]? = some (.int .u16 ((l.getD j 0 : Nat) : Int)) := by
    simp [vals, hj, List.getD]
  simp only [World.cell?, h]
  exact e
set_option maxRecDepth 100000 in
set_option maxHeartbeats 12800000 in
theorem read_good_t (s a b : ByteArray) (w : World) (hC : Cutted s a b true w) (x y : List Nat) (ha : wordsL a.data.toList = some x) (hb : wordsL b.data.toList = some y) (hx : ∀ n ∈ x, n ≤ 65535) (hy : ∀ n ∈ y, n ≤ 65535) (hok : (x.length : Int) + (y.length : Int) ≤ 8) :
    Calls Tryz.prog 32 #[.string s] w (AddrPost (some (joinG (fill x y))) w) := by
  have h1 := hC.one
  have HC := Lib.hid hC
  have HA := Lib.hid ha
  have HBN := Lib.hid hb
  have hF : (fill x y).length = 8 := by unfold fill; simp; omega
  have hFb : ∀ n ∈ fill x y, n ≤ 65535 := by
    intro n hn
    unfold fill at hn
    simp only [List.mem_append, List.mem_replicate] at hn
    rcases hn with (hn | ⟨_, rfl⟩) | hn
    · exact hx n hn
    · omega
    · exact hy n hn
  have HF := Lib.hid (And.intro hF hFb)
  obtain ⟨q0, hq0⟩ : ∃ q0 : Int, q0 = ((joinG (fill x y)).1 : Int) := ⟨_, rfl⟩
  obtain ⟨q1, hq1⟩ : ∃ q1 : Int, q1 = ((joinG (fill x y)).2 : Int) := ⟨_, rfl⟩
  have hJ := joined_calls (fill x y) hF hFb
  rw [← hq0, ← hq1] at hJ
  have HJ := Lib.hid hJ
  unfold AddrPost
  simp only
  rw [← hq0, ← hq1]
  have hsp := splice_fill x y (by omega)
  have HSP := Lib.hid hsp
  clear hC ha hb hF hFb hJ hq0 hq1 hx hy hsp
  go_enter Tryz.func32, Tryz.ntmps32
  go_wp2_with (go_at_call 46; refine HC.out.split.mono ?_; rintro e w1 ⟨rfl, hb1⟩)
  have hb1' : Below (w.alloc (.cells #[.int .u64 0, .int .u64 0] 24)).heap.size (w.alloc (.cells #[.int .u64 0, .int .u64 0] 24)) w1 := by rw [World.size_alloc]; exact hb1
  have hR1 := (resA_new w 24).below hb1'
  have hB1 := (ba1 w (.cells #[.int .u64 0, .int .u64 0] 24)).trans (hb1'.mono (by simp))
  have hV1 := HC.out.vars.below hB1
  clear hb1 hb1'
  go_at_call 48
  refine (HC.out.cut w1 hV1).mono ?_
  rintro e w2 ⟨rfl, hb2⟩
  have hR2 := hR1.below hb2
  have hB2 := bnext hB1 hb2
  have hV2 := hV1.below hb2
  clear hR1 hB1 hV1 hb2
  go_wp2_with fail
  obtain ⟨m, hm⟩ := hV2.len
  refine (words_is a m _ HC.out.asz hm hV2.err x HA.out).mono ?_
  rintro e w3 ⟨⟨A, cap, rfl, hrow⟩, hb3⟩
  have hR3 := hR2.below hb3
  have hB3 := bnext hB2 hb3
  have hV3 := hV2.below hb3
  clear hR2 hB2 hV2 hb3 hm
  go_wp2_with fail
  obtain ⟨m, hm⟩ := hV3.len
  refine (words_is b m _ HC.out.bsz hm hV3.err y HBN.out).mono ?_
  rintro e w4 ⟨⟨A2, cap2, rfl, hrow2⟩, hb4⟩
  have hR4 := hR3.below hb4
  have hB4 := bnext hB3 hb4
  have hrow1 := hrow.below hb4
  have hR4' := hR4
  obtain ⟨r0, r1, r2, r3⟩ := hR4'
  clear hR3 hB3 hV3 hm hrow
  obtain ⟨o, ho, hsl⟩ := slice_tail w4.heap.size y.length (by omega)
  have hi38 : (Tryz.prog.info? 62).map (·.size) = some 1 := by kernel_rfl
  go_wp2_with (with_reducible refine wpList_copy_splice rfl (.tmp 62) (.tmp 63) 66 66 rfl 62 Tryz.underlying66 hi38 (some ⟨w4.heap.size, 0, none⟩) A 8 8 x.length cap rfl rfl w4.heap.size 0 zero8 63 ?g1 (vals x) ?g2 ?g3 ?g4 ?g5 w4.heap.size w4 ?g6 ?g7 ?_)
  case g1 => exact heap_alloc_new _ _
  case g2 =>
    simp only [vals, List.length_map]
    exact (Nat.min_eq_left (by omega)).symm
  case g3 =>
    intro hp
    obtain ⟨g, e1, _, e3, e4⟩ := hrow1.cells (by simpa [vals] using hp)
    refine ⟨_, e1, fun j v hj => ?_⟩
    simp only [vals, List.getElem?_map, Option.map_eq_some_iff] at hj
    obtain ⟨n, hn, rfl⟩ := hj
    rw [Lib.add_plain, Nat.zero_add, World.cell?_alloc_past _ _ _ e3]
    exact e4 j n hn
  case g4 => simp [vals, zero8]; omega
  case g5 => intro v hv; simp only [vals, List.mem_map] at hv; obtain ⟨n, _, rfl⟩ := hv; rfl
  case g6 => exact ba1 _ _
  case g7 => exact Nat.le_refl _
  intro w5 hg5 hb5
  go_wp2_with (with_reducible refine wpList_copy_splice rfl (.tmp 68) (.tmp 69) 66 66 rfl 62 Tryz.underlying66 hi38 (some ⟨w4.heap.size, o, none⟩) A2 y.length y.length y.length cap2 rfl rfl w4.heap.size (8 - y.length) (splice zero8 0 (vals x)) 63 ?k1 (vals y) ?k2 ?k3 ?k4 ?k5 w4.heap.size w4 ?k6 ?k7 ?_)
  case k1 => exact hg5.out
  case k2 => simp [vals]
  case k3 =>
    intro hp
    obtain ⟨g, e1, _, e3, e4⟩ := hrow2.cells (by simpa [vals] using hp)
    refine ⟨by rw [ho (by simpa [vals] using hp)], _, e1, fun j v hj => ?_⟩
    simp only [vals, List.getElem?_map, Option.map_eq_some_iff] at hj
    obtain ⟨n, hn, rfl⟩ := hj
    rw [Lib.add_plain, Nat.zero_add]
    exact (hb5.cell (p := ⟨g, j, none⟩) e3).trans (e4 j n hn)
  case k4 =>
    rw [length_splice _ _ _ (by simp [vals, zero8]; omega)]
    simp [vals, zero8]; omega
  case k5 => intro v hv; simp only [vals, List.mem_map] at hv; obtain ⟨n, _, rfl⟩ := hv; rfl
  case k6 => exact hb5
  case k7 => exact Nat.le_refl _
  intro w6 hg6 hb6
  have hG6 := hg6.out
  rw [HSP.out] at hG6
  have hcell := cell_vals hG6
  have hlenF := HF.out.1
  have c0 := hcell 0 (by omega)
  have c1 := hcell 1 (by omega)
  have c2 := hcell 2 (by omega)
  have c3 := hcell 3 (by omega)
  have c4 := hcell 4 (by omega)
  have c5 := hcell 5 (by omega)
  have c6 := hcell 6 (by omega)
  have c7 := hcell 7 (by omega)
  have hJ := HJ.out w6 (fun j => (((fill x y).getD j 0 : Nat) : Int)) (fun _ _ => rfl)
  have HJ6 := Lib.hid hJ
  obtain ⟨F, hFe⟩ : ∃ F : Nat → Int, F = fun j => (((fill x y).getD j 0 : Nat) : Int) := ⟨_, rfl⟩
  have hFe' : ∀ j, (((fill x y).getD j 0 : Nat) : Int) = F j := fun j => by rw [hFe]
  rw [hFe'] at c0 c1 c2 c3 c4 c5 c6 c7
  simp only [hFe'] at hJ
  have hR6 := hR4.below hb6
  have hB6 := bnext hB4 hb6
  have HJ7 := Lib.hid hJ
  clear hJ HJ6 hcell hG6 hg6 hFe' hFe hlenF hsl hg5 hb5 hrow1 hrow2 r0 r1 r2 r3 HJ HF HSP
  go_wp2_with (go_at_call 50; refine HJ7.out.mono ?_; rintro e w7 ⟨rfl, hb7⟩; have hR7 := hR6.below hb7; obtain ⟨r0, r1, r2, r3⟩ := hR7)
  obtain ⟨s0, s1⟩ := resA_set (hR6.below hb7) q0 q1
  have HB' := ResA.setBelow (bnext hB6 hb7) (Nat.le_refl _) q0 q1
  generalize (w7.setCell ⟨w.heap.size, 0, none⟩ (.int .u64 q0)).setCell ⟨w.heap.size, 1, none⟩ (.int .u64 q1) = W2 at s0 s1 HB' ⊢
  exact bodyPost_ret (v := .tuple #[.agg #[.int .u64 q0, .int .u64 q1], .bool true]) (by simp [results, Tryz.results32, go_sem, s0, s1]) rfl ⟨rfl, HB'⟩
set_option maxRecDepth 100000 in
set_option maxHeartbeats 12800000 in
theorem read_good_f (s a b : ByteArray) (w : World) (hC : Cutted s a b false w) (x y : List Nat) (ha : wordsL a.data.toList = some x) (hb : wordsL b.data.toList = some y) (hx : ∀ n ∈ x, n ≤ 65535) (hy : ∀ n ∈ y, n ≤ 65535) (hok : (x.length : Int) + (y.length : Int) ≤ 8) (hshort : ((x.length : Int) != 8) = false) :
    Calls Tryz.prog 32 #[.string s] w (AddrPost (some (joinG (fill x y))) w) := by
  have h1 := hC.one
  have HC := Lib.hid hC
  have HA := Lib.hid ha
  have HBN := Lib.hid hb
  have hF : (fill x y).length = 8 := by unfold fill; simp; omega
  have hFb : ∀ n ∈ fill x y, n ≤ 65535 := by
    intro n hn
    unfold fill at hn
    simp only [List.mem_append, List.mem_replicate] at hn
    rcases hn with (hn | ⟨_, rfl⟩) | hn
    · exact hx n hn
    · omega
    · exact hy n hn
  have HF := Lib.hid (And.intro hF hFb)
  obtain ⟨q0, hq0⟩ : ∃ q0 : Int, q0 = ((joinG (fill x y)).1 : Int) := ⟨_, rfl⟩
  obtain ⟨q1, hq1⟩ : ∃ q1 : Int, q1 = ((joinG (fill x y)).2 : Int) := ⟨_, rfl⟩
  have hJ := joined_calls (fill x y) hF hFb
  rw [← hq0, ← hq1] at hJ
  have HJ := Lib.hid hJ
  unfold AddrPost
  simp only
  rw [← hq0, ← hq1]
  have hsp := splice_fill x y (by omega)
  have HSP := Lib.hid hsp
  clear hC ha hb hF hFb hJ hq0 hq1 hx hy hsp
  go_enter Tryz.func32, Tryz.ntmps32
  go_wp2_with (go_at_call 46; refine HC.out.split.mono ?_; rintro e w1 ⟨rfl, hb1⟩)
  have hb1' : Below (w.alloc (.cells #[.int .u64 0, .int .u64 0] 24)).heap.size (w.alloc (.cells #[.int .u64 0, .int .u64 0] 24)) w1 := by rw [World.size_alloc]; exact hb1
  have hR1 := (resA_new w 24).below hb1'
  have hB1 := (ba1 w (.cells #[.int .u64 0, .int .u64 0] 24)).trans (hb1'.mono (by simp))
  have hV1 := HC.out.vars.below hB1
  clear hb1 hb1'
  go_at_call 48
  refine (HC.out.cut w1 hV1).mono ?_
  rintro e w2 ⟨rfl, hb2⟩
  have hR2 := hR1.below hb2
  have hB2 := bnext hB1 hb2
  have hV2 := hV1.below hb2
  clear hR1 hB1 hV1 hb2
  go_wp2_with fail
  obtain ⟨m, hm⟩ := hV2.len
  refine (words_is a m _ HC.out.asz hm hV2.err x HA.out).mono ?_
  rintro e w3 ⟨⟨A, cap, rfl, hrow⟩, hb3⟩
  have hR3 := hR2.below hb3
  have hB3 := bnext hB2 hb3
  have hV3 := hV2.below hb3
  clear hR2 hB2 hV2 hb3 hm
  go_wp2_with fail
  obtain ⟨m, hm⟩ := hV3.len
  refine (words_is b m _ HC.out.bsz hm hV3.err y HBN.out).mono ?_
  rintro e w4 ⟨⟨A2, cap2, rfl, hrow2⟩, hb4⟩
  have hR4 := hR3.below hb4
  have hB4 := bnext hB3 hb4
  have hrow1 := hrow.below hb4
  have hR4' := hR4
  obtain ⟨r0, r1, r2, r3⟩ := hR4'
  clear hR3 hB3 hV3 hm hrow
  obtain ⟨o, ho, hsl⟩ := slice_tail w4.heap.size y.length (by omega)
  have hi38 : (Tryz.prog.info? 62).map (·.size) = some 1 := by kernel_rfl
  go_wp2_with (with_reducible refine wpList_copy_splice rfl (.tmp 62) (.tmp 63) 66 66 rfl 62 Tryz.underlying66 hi38 (some ⟨w4.heap.size, 0, none⟩) A 8 8 x.length cap rfl rfl w4.heap.size 0 zero8 63 ?g1 (vals x) ?g2 ?g3 ?g4 ?g5 w4.heap.size w4 ?g6 ?g7 ?_)
  case g1 => exact heap_alloc_new _ _
  case g2 =>
    simp only [vals, List.length_map]
    exact (Nat.min_eq_left (by omega)).symm
  case g3 =>
    intro hp
    obtain ⟨g, e1, _, e3, e4⟩ := hrow1.cells (by simpa [vals] using hp)
    refine ⟨_, e1, fun j v hj => ?_⟩
    simp only [vals, List.getElem?_map, Option.map_eq_some_iff] at hj
    obtain ⟨n, hn, rfl⟩ := hj
    rw [Lib.add_plain, Nat.zero_add, World.cell?_alloc_past _ _ _ e3]
    exact e4 j n hn
  case g4 => simp [vals, zero8]; omega
  case g5 => intro v hv; simp only [vals, List.mem_map] at hv; obtain ⟨n, _, rfl⟩ := hv; rfl
  case g6 => exact ba1 _ _
  case g7 => exact Nat.le_refl _
  intro w5 hg5 hb5
  go_wp2_with (with_reducible refine wpList_copy_splice rfl (.tmp 68) (.tmp 69) 66 66 rfl 62 Tryz.underlying66 hi38 (some ⟨w4.heap.size, o, none⟩) A2 y.length y.length y.length cap2 rfl rfl w4.heap.size (8 - y.length) (splice zero8 0 (vals x)) 63 ?k1 (vals y) ?k2 ?k3 ?k4 ?k5 w4.heap.size w4 ?k6 ?k7 ?_)
  case k1 => exact hg5.out
  case k2 => simp [vals]
  case k3 =>
    intro hp
    obtain ⟨g, e1, _, e3, e4⟩ := hrow2.cells (by simpa [vals] using hp)
    refine ⟨by rw [ho (by simpa [vals] using hp)], _, e1, fun j v hj => ?_⟩
    simp only [vals, List.getElem?_map, Option.map_eq_some_iff] at hj
    obtain ⟨n, hn, rfl⟩ := hj
    rw [Lib.add_plain, Nat.zero_add]
    exact (hb5.cell (p := ⟨g, j, none⟩) e3).trans (e4 j n hn)
  case k4 =>
    rw [length_splice _ _ _ (by simp [vals, zero8]; omega)]
    simp [vals, zero8]; omega
  case k5 => intro v hv; simp only [vals, List.mem_map] at hv; obtain ⟨n, _, rfl⟩ := hv; rfl
  case k6 => exact hb5
  case k7 => exact Nat.le_refl _
  intro w6 hg6 hb6
  have hG6 := hg6.out
  rw [HSP.out] at hG6
  have hcell := cell_vals hG6
  have hlenF := HF.out.1
  have c0 := hcell 0 (by omega)
  have c1 := hcell 1 (by omega)
  have c2 := hcell 2 (by omega)
  have c3 := hcell 3 (by omega)
  have c4 := hcell 4 (by omega)
  have c5 := hcell 5 (by omega)
  have c6 := hcell 6 (by omega)
  have c7 := hcell 7 (by omega)
  have hJ := HJ.out w6 (fun j => (((fill x y).getD j 0 : Nat) : Int)) (fun _ _ => rfl)
  have HJ6 := Lib.hid hJ
  obtain ⟨F, hFe⟩ : ∃ F : Nat → Int, F = fun j => (((fill x y).getD j 0 : Nat) : Int) := ⟨_, rfl⟩
  have hFe' : ∀ j, (((fill x y).getD j 0 : Nat) : Int) = F j := fun j => by rw [hFe]
  rw [hFe'] at c0 c1 c2 c3 c4 c5 c6 c7
  simp only [hFe'] at hJ
  have hR6 := hR4.below hb6
  have hB6 := bnext hB4 hb6
  have HJ7 := Lib.hid hJ
  clear hJ HJ6 hcell hG6 hg6 hFe' hFe hlenF hsl hg5 hb5 hrow1 hrow2 r0 r1 r2 r3 HJ HF HSP
  go_wp2_with (go_at_call 50; refine HJ7.out.mono ?_; rintro e w7 ⟨rfl, hb7⟩; have hR7 := hR6.below hb7; obtain ⟨r0, r1, r2, r3⟩ := hR7)
  obtain ⟨s0, s1⟩ := resA_set (hR6.below hb7) q0 q1
  have HB' := ResA.setBelow (bnext hB6 hb7) (Nat.le_refl _) q0 q1
  generalize (w7.setCell ⟨w.heap.size, 0, none⟩ (.int .u64 q0)).setCell ⟨w.heap.size, 1, none⟩ (.int .u64 q1) = W2 at s0 s1 HB' ⊢
  exact bodyPost_ret (v := .tuple #[.agg #[.int .u64 q0, .int .u64 q1], .bool true]) (by simp [results, Tryz.results32, go_sem, s0, s1]) rfl ⟨rfl, HB'⟩

theorem wordsFrom_le : ∀ (ws : List (List UInt8)) (out r : List Nat), wordsFrom out ws = some r → out.length ≤ 8 → (∀ n ∈ out, n ≤ 65535) → r.length ≤ 8 ∧ ∀ n ∈ r, n ≤ 65535
  | [], out, r, h, h8, hb => by
    simp only [wordsFrom, Option.some.injEq] at h
    subst h
    exact ⟨h8, hb⟩
  | w :: ws, out, r, h, h8, hb => by
    rw [wordsFrom_cons] at h
    cases hg : grp1 w with
    | none => rw [hg] at h; cases h
    | some v =>
      rw [hg] at h
      simp only at h
      split at h
      · cases h
      · refine wordsFrom_le ws _ r h (by simp; omega) (fun n hn => ?_)
        rcases List.mem_append.mp hn with h1 | h1
        · exact hb n h1
        · simp at h1; rw [h1]; exact grp1_le w v hg
theorem wordsL_le (s : List UInt8) (r : List Nat) (h : wordsL s = some r) : r.length ≤ 8 ∧ ∀ n ∈ r, n ≤ 65535 := by
  unfold wordsL at h
  split at h
  · obtain rfl := Option.some.inj h
    exact ⟨by simp, by simp⟩
  · exact wordsFrom_le _ [] r h (by simp) (by simp)
theorem below_drewN (w : World) (n : Nat) : Below w.heap.size w (w.drewN n) := ⟨rfl, rfl, rfl, Nat.le_refl _, fun _ _ => rfl⟩
theorem cutted (s a b : ByteArray) (short : Bool) (w : World) (hs : s.size < 4294967281) (hv : LibVars w) (h4 : (cutAt 46 s.data.toList).length ≠ 4) (hc : Lib.cut s.data.toList [58, 58] = (a.data.toList, b.data.toList, short)) (ha : a.size ≤ s.size) (hb : b.size ≤ s.size) : Cutted s a b short w where
  one := by
    rw [beq_eq_false_iff_ne]
    intro e
    apply h4
    rw [← pieces_data, List.length_map]
    omega
  cut := fun w1 hv1 => by
    obtain ⟨m, hm⟩ := hv1.len
    refine (Tryz.strings_Cut s ⟨#[58, 58]⟩ m w1 hs hm).mono fun e w' h => ?_
    obtain ⟨h1, n, h2⟩ := h
    refine ⟨?_, h2 ▸ below_drewN w1 n⟩
    rw [h1]
    have e1 : (Lib.cut s.data.toList (⟨#[58, 58]⟩ : ByteArray).data.toList) = (a.data.toList, b.data.toList, short) := hc
    rw [e1, Lib.mk_data, Lib.mk_data]
  split := by
    obtain ⟨m, hm⟩ := hv.len
    have := split_calls s 46 m (w.alloc (.cells #[.int .u64 0, .int .u64 0] 24)) hs (by rw [World.cell?_alloc_past _ _ _ (lt_of_cell hm)]; exact hm)
    refine this.mono fun e w' h => ⟨?_, ?_⟩
    · rw [h.1, World.size_alloc]
    · rw [h.2]
      have := ba1 (w.alloc (.cells #[.int .u64 0, .int .u64 0] 24)) (.cells ((pieces 46 s).map Value.string).toArray 9)
      rwa [World.size_alloc] at this
  vars := hv
  asz := by omega
  bsz := by omega
theorem read_six (s a b : ByteArray) (short : Bool) (w : World) (hC : Cutted s a b short w) : Calls Tryz.prog 32 #[.string s] w (AddrPost (read6 a.data.toList b.data.toList short) w) := by
  unfold read6
  cases hx : wordsL a.data.toList with
  | none => exact read_badA s a b short w hC hx
  | some x =>
    cases hy : wordsL b.data.toList with
    | none => exact read_badB s a b short w hC x hx hy
    | some y =>
      obtain ⟨lx, bx⟩ := wordsL_le _ _ hx
      obtain ⟨ly, bY⟩ := wordsL_le _ _ hy
      simp only
      by_cases h8 : 8 < x.length + y.length
      · rw [if_pos (Or.inl h8)]
        exact read_many s a b short w hC x y hx hy (by omega) (by omega) (by omega)
      · cases short with
        | true =>
          rw [if_neg (by rintro (h | ⟨h, _⟩); exact h8 h; cases h)]
          exact read_good_t s a b w hC x y hx hy bx bY (by omega)
        | false =>
          by_cases hn : x.length = 8
          · rw [if_neg (by rintro (h | ⟨_, h⟩); exact h8 h; exact h hn)]
            exact read_good_f s a b w hC x y hx hy bx bY (by omega) (by rw [bne_eq_false_iff_eq]; omega)
          · rw [if_pos (Or.inr ⟨rfl, hn⟩)]
            exact read_few s a b w hC x y hx hy (by omega) (by rw [bne_iff_ne]; omega)
theorem read_calls (s : ByteArray) (w : World) (hs : s.size < 4294967281) (hv : LibVars w) : Calls Tryz.prog 32 #[.string s] w (AddrPost (readL s.data.toList) w) := by
  unfold readL
  by_cases h4 : (cutAt 46 s.data.toList).length = 4
  · rw [if_pos h4]
    exact read_four s w hs hv h4
  · rw [if_neg h4]
    have hz : s.data.toList.length = s.size := (Lib.size_eq s).symm
    have hcut := cut_cut2 s.data.toList
    cases hc : cut2 s.data.toList with
    | none =>
      rw [hc] at hcut
      exact read_six s s ⟨#[]⟩ false w (cutted s s ⟨#[]⟩ false w hs hv h4 hcut (Nat.le_refl _) (Nat.zero_le _))
    | some p =>
      rw [hc] at hcut
      have hp := congrArg List.length (cut2_parts _ _ hc)
      simp only [List.length_append, List.length_cons] at hp
      have e1 : (⟨p.1.toArray⟩ : ByteArray).data.toList = p.1 := rfl
      have e2 : (⟨p.2.toArray⟩ : ByteArray).data.toList = p.2 := rfl
      have := read_six s ⟨p.1.toArray⟩ ⟨p.2.toArray⟩ true w (cutted s _ _ true w hs hv h4 (by rw [e1, e2]; exact hcut) (by show p.1.toArray.size ≤ _; simp; omega) (by show p.2.toArray.size ≤ _; simp; omega))
      exact this
end Go.Proofs.YtgbkeciimddpnaaGreatDoor.Print
