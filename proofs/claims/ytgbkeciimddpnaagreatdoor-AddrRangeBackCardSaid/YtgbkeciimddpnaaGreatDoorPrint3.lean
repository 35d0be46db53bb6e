-- PRINTED by print.py (a twelfth state) out of the translation. Not trusted: Lean checks it.
import Derived.Test.YtgbkeciimddpnaaGreatDoorPrint0
import Derived.Test.YtgbkeciimddpnaaGreatDoorPrint2
namespace Go.Proofs.YtgbkeciimddpnaaGreatDoor.Print
open Go.RowKit Go.Proofs.YtgbkeciimddpnaaGreatDoorW.PrintWords Go.Proofs.YtgbkeciimddpnaaGreatDoorW.PrintLast Go.Proofs.YtgbkeciimddpnaaGreatDoorW.PrintMore
attribute [local go_sem] max2_int min2_int max_two min_two max_three min_three max_four min_four   -- for this text's walks alone
set_option linter.unusedVariables false
set_option linter.unusedSimpArgs false

/-! ### sallyportref03_groups: function 63 -/
mutual
def sallyportref03_groups.l0 : Nat → List ByteArray → Int → Int → Int → Option (Int × Int × Int × Bool)
  | 0, _, _, _, _ => none
  | k + 1, x6, x7, x113000, x113001 => if x7 < (x6.length : Int) then (if 0 ≤ x7 then (if ((rdOf ByteArray.empty x6 x7).size : Int) < 1 then (sallyportref03_groups.j1 k x6 x7 true x113000 x113001) else (sallyportref03_groups.j1 k x6 x7 (decide (((rdOf ByteArray.empty x6 x7).size : Int) > 4)) x113000 x113001)) else (none)) else (some (x113000, x113001, (x6.length : Int), decide ((x6.length : Int) ≤ 8)))
def sallyportref03_groups.j1 : Nat → List ByteArray → Int → Bool → Int → Int → Option (Int × Int × Int × Bool)
  | 0, _, _, _, _, _ => none
  | k + 1, x6, x7, x36, x113000, x113001 => if x36 = true then (some (x113000, x113001, 0, false)) else (sallyportref03_groups.l1 k x6 x7 0 0 x113000 x113001)
def sallyportref03_groups.l1 : Nat → List ByteArray → Int → Int → Int → Int → Int → Option (Int × Int × Int × Bool)
  | 0, _, _, _, _, _, _ => none
  | k + 1, x6, x7, x8, x9, x113000, x113001 => if 0 ≤ x7 then (if x7 < (x6.length : Int) then (if x9 < ((rdOf ByteArray.empty x6 x7).size : Int) then (if 0 ≤ x9 then ((sallyportref03_hex.f k (bt (rdOf ByteArray.empty x6 x7) x9)).bind fun t120 => (if t120 < 0 then (some (x113000, x113001, 0, false)) else (sallyportref03_groups.l1 k x6 x7 (wrap64 ((wrap64 (x8 * 16)) + t120)) (wrap64 (x9 + 1)) x113000 x113001))) else (none)) else (sallyportref03_groups.l0 k x6 (wrap64 (x7 + 1)) (Go.bits .or .u64 (IntKind.u64.wrap (x113000 * 65536)) (x113001 / 281474976710656)) (Go.bits .or .u64 (IntKind.u64.wrap (x113001 * 65536)) (IntKind.u64.wrap (x8))))) else (none)) else (none)
end
def sallyportref03_groups.f (k : Nat) (a0 : ByteArray) : Option (Int × Int × Int × Bool) := if a0.toList = ([] : List UInt8) then (some (0, 0, 0, true)) else ((sallyportref03_cut.f k a0 58).bind fun t113 => (sallyportref03_groups.l0 k t113 0 0 0))
theorem sallyportref03_groups.mono_l : ∀ k, (∀ y0 y1 y2 y3, LeO (sallyportref03_groups.l0 k y0 y1 y2 y3) (sallyportref03_groups.l0 (k + 1) y0 y1 y2 y3)) ∧ (∀ y0 y1 y2 y3 y4, LeO (sallyportref03_groups.j1 k y0 y1 y2 y3 y4) (sallyportref03_groups.j1 (k + 1) y0 y1 y2 y3 y4)) ∧ (∀ y0 y1 y2 y3 y4 y5, LeO (sallyportref03_groups.l1 k y0 y1 y2 y3 y4 y5) (sallyportref03_groups.l1 (k + 1) y0 y1 y2 y3 y4 y5))
  | 0 => ⟨fun _ _ _ _ r h => by simp [sallyportref03_groups.l0] at h, fun _ _ _ _ _ r h => by simp [sallyportref03_groups.j1] at h, fun _ _ _ _ _ _ r h => by simp [sallyportref03_groups.l1] at h⟩
  | k + 1 => by
    obtain ⟨ih0, ih1, ih2⟩ := sallyportref03_groups.mono_l k
    refine ⟨?_, ?_, ?_⟩
    · intro y0 y1 y2 y3
      unfold sallyportref03_groups.l0
      repeat' first
      | (with_reducible exact ih0 _ _ _ _)
      | (with_reducible exact ih1 _ _ _ _ _)
      | (with_reducible exact ih2 _ _ _ _ _ _)
      | (with_reducible exact sallyportref03_cut.mono _ _ _)
      | (with_reducible exact sallyportref03_hex.mono _ _)
      | (with_reducible exact LeO.refl _)
      | (with_reducible exact LeO.none _)
      | (with_reducible refine LeO.ite ?_ ?_)
      | (with_reducible refine LeO.bind ?_ (fun _ => ?_))
      | exact ih0 _ _ _ _
      | exact ih1 _ _ _ _ _
      | exact ih2 _ _ _ _ _ _
      | exact sallyportref03_cut.mono _ _ _
      | exact sallyportref03_hex.mono _ _
      | exact LeO.none _
      | refine LeO.ite ?_ ?_
      | refine LeO.bind ?_ (fun _ => ?_)
    · intro y0 y1 y2 y3 y4
      unfold sallyportref03_groups.j1
      repeat' first
      | (with_reducible exact ih0 _ _ _ _)
      | (with_reducible exact ih1 _ _ _ _ _)
      | (with_reducible exact ih2 _ _ _ _ _ _)
      | (with_reducible exact sallyportref03_cut.mono _ _ _)
      | (with_reducible exact sallyportref03_hex.mono _ _)
      | (with_reducible exact LeO.refl _)
      | (with_reducible exact LeO.none _)
      | (with_reducible refine LeO.ite ?_ ?_)
      | (with_reducible refine LeO.bind ?_ (fun _ => ?_))
      | exact ih0 _ _ _ _
      | exact ih1 _ _ _ _ _
      | exact ih2 _ _ _ _ _ _
      | exact sallyportref03_cut.mono _ _ _
      | exact sallyportref03_hex.mono _ _
      | exact LeO.none _
      | refine LeO.ite ?_ ?_
      | refine LeO.bind ?_ (fun _ => ?_)
    · intro y0 y1 y2 y3 y4 y5
      unfold sallyportref03_groups.l1
      repeat' first
      | (with_reducible exact ih0 _ _ _ _)
      | (with_reducible exact ih1 _ _ _ _ _)
      | (with_reducible exact ih2 _ _ _ _ _ _)
      | (with_reducible exact sallyportref03_cut.mono _ _ _)
      | (with_reducible exact sallyportref03_hex.mono _ _)
      | (with_reducible exact LeO.refl _)
      | (with_reducible exact LeO.none _)
      | (with_reducible refine LeO.ite ?_ ?_)
      | (with_reducible refine LeO.bind ?_ (fun _ => ?_))
      | exact ih0 _ _ _ _
      | exact ih1 _ _ _ _ _
      | exact ih2 _ _ _ _ _ _
      | exact sallyportref03_cut.mono _ _ _
      | exact sallyportref03_hex.mono _ _
      | exact LeO.none _
      | refine LeO.ite ?_ ?_
      | refine LeO.bind ?_ (fun _ => ?_)
theorem sallyportref03_groups.mono : ∀ a0 k, LeO (sallyportref03_groups.f k a0) (sallyportref03_groups.f (k + 1) a0) := by
  intro a0 k
  obtain ⟨ih0, ih1, ih2⟩ := sallyportref03_groups.mono_l k
  unfold sallyportref03_groups.f
  repeat' first
      | (with_reducible exact ih0 _ _ _ _)
      | (with_reducible exact ih1 _ _ _ _ _)
      | (with_reducible exact ih2 _ _ _ _ _ _)
      | (with_reducible exact sallyportref03_cut.mono _ _ _)
      | (with_reducible exact sallyportref03_hex.mono _ _)
      | (with_reducible exact LeO.refl _)
      | (with_reducible exact LeO.none _)
      | (with_reducible refine LeO.ite ?_ ?_)
      | (with_reducible refine LeO.bind ?_ (fun _ => ?_))
      | exact ih0 _ _ _ _
      | exact ih1 _ _ _ _ _
      | exact ih2 _ _ _ _ _ _
      | exact sallyportref03_cut.mono _ _ _
      | exact sallyportref03_hex.mono _ _
      | exact LeO.none _
      | refine LeO.ite ?_ ?_
      | refine LeO.bind ?_ (fun _ => ?_)
set_option maxHeartbeats 8000000 in
set_option maxRecDepth 100000 in
theorem sallyportref03_groups.calls (k : Nat) (a0 : ByteArray) (r1 : Int) (r2 : Int) (r3 : Int) (r4 : Bool) (w : World) (h : sallyportref03_groups.f k a0 = some (r1, r2, r3, r4)) :
    Calls Tryz.prog 63 #[.string a0] w fun e w' => e = .returned (.tuple #[.agg #[.int .u64 r1, .int .u64 r2], .int .i64 r3, .bool r4]) ∧ Below w.heap.size w w' := by
  have hu24 := Tryz.underlying24
  have HB := Aside0.mk (Below.refl w.heap.size w)
  have H : (if a0.toList = ([] : List UInt8) then (some (0, 0, 0, true)) else ((sallyportref03_cut.f k a0 58).bind fun t113 => (sallyportref03_groups.l0 k t113 0 0 0))) = some (r1, r2, r3, r4) := h
  clear h
  by_cases c2 : a0.toList = ([] : List UInt8)
  · rw [if_pos c2] at H
    have c2b0 : (a0.toList == ([] : List UInt8)) = true := beq_iff_eq.mpr c2
    have c2b1 : (a0.toList != ([] : List UInt8)) = false := bne_eq_false_iff_eq.mpr c2
    clear c2
    simp only [Option.some.injEq, Prod.mk.injEq] at H
    obtain ⟨rfl, rfl, rfl, rfl⟩ := H
    go_enter Tryz.func63, Tryz.ntmps63
    go_wp2_with (first | ((with_reducible refine gate_dst (N := 2) rfl ?_); (try (refine gate_guard (by rfl) ?_; dsimp only)); refine box_event ?hg (N := 2) ?hd (cs := #[.int .u64 0, .int .u64 0]) (t := 24) ?hr ?_; (case hd => rfl); (case hg => rfl); (case hr => first | (go_simp; done) | (go_simp; rfl)); intro gb111 hg w3 hbox hb; have n0_ := Aside0.mk (below_step (by repeat (first | (with_reducible first | exact HB.out | apply below_alloc | apply pw_below_drewN | apply below_drew1) | exact HB.out)) hb); have n1_ := Aside0.mk (hbox); have n2_ := Aside0.mk ((by rw [hg]; exact (below_size (by repeat (first | (with_reducible first | exact HB.out | apply below_alloc | apply pw_below_drewN | apply below_drew1) | exact HB.out))) : w.heap.size ≤ gb111)); have n3_ := Aside0.mk ((by rw [hg]; exact (below_size (by repeat (first | (with_reducible first | exact HB.out | apply below_alloc | apply pw_below_drewN | apply below_drew1) | exact HB.out))) : w.heap.size ≤ gb111)); clear HB; have HB := n0_; have BK111 := n1_; have GW111 := n2_; have GE111 := n3_; clear n0_ n1_ n2_ n3_; clear hb hbox hg) | ((with_reducible refine gate_dst (N := 5) rfl ?_); (try (refine gate_guard (by rfl) ?_; dsimp only)); refine box_event ?hg (N := 5) ?hd (cs := #[.int .u64 0, .int .u64 0]) (t := 24) ?hr ?_; (case hd => rfl); (case hg => rfl); (case hr => first | (go_simp; done) | (go_simp; rfl)); intro gb112 hg w4 hbox hb; have n0_ := Aside0.mk (blk_below (g := gb111) (o := .cells #[.int .u64 0, .int .u64 0] 24 (0, 0)) (by (with_reducible repeat (first | refine blk_drewN ?_ _ | refine blk_drew ?_ | refine blk_alloc ?_ _)); exact BK111.out) hb); have n1_ := Aside0.mk (below_step (by repeat (first | (with_reducible first | exact HB.out | apply below_alloc | apply pw_below_drewN | apply below_drew1 | refine below_set ?_ GE111.out) | exact HB.out)) hb); have n2_ := Aside0.mk (hbox); have n3_ := Aside0.mk ((by rw [hg]; exact (below_size (by repeat (first | (with_reducible first | exact HB.out | apply below_alloc | apply pw_below_drewN | apply below_drew1 | refine below_set ?_ GE111.out) | exact HB.out))) : w.heap.size ≤ gb112)); have n4_ := Aside0.mk ((by rw [hg]; exact (below_size (by repeat (first | (with_reducible first | exact HB.out | apply below_alloc | apply pw_below_drewN | apply below_drew1 | refine below_set ?_ GE111.out) | exact HB.out))) : w.heap.size ≤ gb112)); have n5_ := Aside0.mk ((by rw [hg]; exact Nat.ne_of_lt (blk_lt (g := gb111) (o := .cells #[.int .u64 0, .int .u64 0] 24 (0, 0)) (by (with_reducible repeat (first | refine blk_drewN ?_ _ | refine blk_drew ?_ | refine blk_alloc ?_ _)); exact BK111.out)) : gb111 ≠ gb112)); have n6_ := Aside0.mk ((by rw [hg]; exact Nat.ne_of_gt (blk_lt (g := gb111) (o := .cells #[.int .u64 0, .int .u64 0] 24 (0, 0)) (by (with_reducible repeat (first | refine blk_drewN ?_ _ | refine blk_drew ?_ | refine blk_alloc ?_ _)); exact BK111.out)) : gb112 ≠ gb111)); clear BK111; clear HB; have BK111 := n0_; have HB := n1_; have BK112 := n2_; have GW112 := n3_; have GE112 := n4_; have NB111_112 := n5_; have NB112_111 := n6_; clear n0_ n1_ n2_ n3_ n4_ n5_ n6_; clear hb hbox hg; have hnb5 := NB112_111.out; have hnc5 := NB111_112.out; have hcz6_0 : w4.cell? ⟨gb112, 0, none⟩ = some (.int .u64 0) := (blk_cell BK112.out 0).trans rfl; have hcz6_1 : w4.cell? ⟨gb112, 1, none⟩ = some (.int .u64 0) := (blk_cell BK112.out 1).trans rfl; have hfz6_0 := blk_frozen BK112.out 0; have hfz6_1 := blk_frozen BK112.out 1; have hcz7_0 : w4.cell? ⟨gb111, 0, none⟩ = some (.int .u64 0) := (blk_cell BK111.out 0).trans rfl; have hcz7_1 : w4.cell? ⟨gb111, 1, none⟩ = some (.int .u64 0) := (blk_cell BK111.out 1).trans rfl; have hfz7_0 := blk_frozen BK111.out 0; have hfz7_1 := blk_frozen BK111.out 1))
    refine bodyPost_ret (results_ctt rfl _ _ gb111 24 #[.int .u64 0, .int .u64 0] (0, 0) _ rfl (by (with_reducible repeat (first | refine blk_drewN ?_ _ | refine blk_drew ?_ | refine blk_alloc ?_ _)); refine blk_put (cs := #[.int .u64 0, .int .u64 0]) ?_ 1 _ rfl; (with_reducible repeat (first | refine blk_drewN ?_ _ | refine blk_drew ?_ | refine blk_alloc ?_ _)); refine blk_put (cs := #[.int .u64 0, .int .u64 0]) ?_ 0 _ rfl; (with_reducible repeat (first | refine blk_drewN ?_ _ | refine blk_drew ?_ | refine blk_alloc ?_ _)); refine blk_far ?_ NB111_112.out _; (with_reducible repeat (first | refine blk_drewN ?_ _ | refine blk_drew ?_ | refine blk_alloc ?_ _)); refine blk_far ?_ NB111_112.out _; (with_reducible repeat (first | refine blk_drewN ?_ _ | refine blk_drew ?_ | refine blk_alloc ?_ _)); exact BK111.out) Tryz.underlying24 rfl (by kernel_rfl)) rfl ?_
    exact ⟨by first | rfl | (simp [errW_none, errW_some] <;> rfl) | (simp [*, errW_none, errW_some] <;> rfl), by repeat (first | (with_reducible first | exact HB.out | apply below_alloc | apply pw_below_drewN | apply below_drew1 | refine below_set ?_ GE111.out | refine below_set ?_ GE112.out) | exact HB.out)⟩
  · rw [if_neg c2] at H
    have c2b0 : (a0.toList == ([] : List UInt8)) = false := beq_eq_false_iff_ne.mpr c2
    have c2b1 : (a0.toList != ([] : List UInt8)) = true := bne_iff_ne.mpr c2
    replace H := Option.bind_eq_some_iff.mp H
    obtain ⟨t113, A80, H⟩ := H
    replace H : (sallyportref03_groups.l0 k t113 0 0 0) = some (r1, r2, r3, r4) := H
    have A8 := Aside0.mk A80
    clear A80
    have H' := Aside0.mk H
    clear H
    go_enter Tryz.func63, Tryz.ntmps63
    go_wp2_with (first | ((with_reducible refine gate_dst (N := 2) rfl ?_); (try (refine gate_guard (by rfl) ?_; dsimp only)); refine box_event ?hg (N := 2) ?hd (cs := #[.int .u64 0, .int .u64 0]) (t := 24) ?hr ?_; (case hd => rfl); (case hg => rfl); (case hr => first | (go_simp; done) | (go_simp; rfl)); intro gb111 hg w9 hbox hb; have n0_ := Aside0.mk (below_step (by repeat (first | (with_reducible first | exact HB.out | apply below_alloc | apply pw_below_drewN | apply below_drew1) | exact HB.out)) hb); have n1_ := Aside0.mk (hbox); have n2_ := Aside0.mk ((by rw [hg]; exact (below_size (by repeat (first | (with_reducible first | exact HB.out | apply below_alloc | apply pw_below_drewN | apply below_drew1) | exact HB.out))) : w.heap.size ≤ gb111)); have n3_ := Aside0.mk ((by rw [hg]; exact (below_size (by repeat (first | (with_reducible first | exact HB.out | apply below_alloc | apply pw_below_drewN | apply below_drew1) | exact HB.out))) : w.heap.size ≤ gb111)); clear HB; have HB := n0_; have BK111 := n1_; have GW111 := n2_; have GE111 := n3_; clear n0_ n1_ n2_ n3_; clear hb hbox hg) | ((with_reducible refine gate_dst (N := 5) rfl ?_); (try (refine gate_guard (by rfl) ?_; dsimp only)); refine box_event ?hg (N := 5) ?hd (cs := #[.int .u64 0, .int .u64 0]) (t := 24) ?hr ?_; (case hd => rfl); (case hg => rfl); (case hr => first | (go_simp; done) | (go_simp; rfl)); intro gb112 hg w10 hbox hb; have n0_ := Aside0.mk (blk_below (g := gb111) (o := .cells #[.int .u64 0, .int .u64 0] 24 (0, 0)) (by (with_reducible repeat (first | refine blk_drewN ?_ _ | refine blk_drew ?_ | refine blk_alloc ?_ _)); exact BK111.out) hb); have n1_ := Aside0.mk (below_step (by repeat (first | (with_reducible first | exact HB.out | apply below_alloc | apply pw_below_drewN | apply below_drew1 | refine below_set ?_ GE111.out) | exact HB.out)) hb); have n2_ := Aside0.mk (hbox); have n3_ := Aside0.mk ((by rw [hg]; exact (below_size (by repeat (first | (with_reducible first | exact HB.out | apply below_alloc | apply pw_below_drewN | apply below_drew1 | refine below_set ?_ GE111.out) | exact HB.out))) : w.heap.size ≤ gb112)); have n4_ := Aside0.mk ((by rw [hg]; exact (below_size (by repeat (first | (with_reducible first | exact HB.out | apply below_alloc | apply pw_below_drewN | apply below_drew1 | refine below_set ?_ GE111.out) | exact HB.out))) : w.heap.size ≤ gb112)); have n5_ := Aside0.mk ((by rw [hg]; exact Nat.ne_of_lt (blk_lt (g := gb111) (o := .cells #[.int .u64 0, .int .u64 0] 24 (0, 0)) (by (with_reducible repeat (first | refine blk_drewN ?_ _ | refine blk_drew ?_ | refine blk_alloc ?_ _)); exact BK111.out)) : gb111 ≠ gb112)); have n6_ := Aside0.mk ((by rw [hg]; exact Nat.ne_of_gt (blk_lt (g := gb111) (o := .cells #[.int .u64 0, .int .u64 0] 24 (0, 0)) (by (with_reducible repeat (first | refine blk_drewN ?_ _ | refine blk_drew ?_ | refine blk_alloc ?_ _)); exact BK111.out)) : gb112 ≠ gb111)); clear BK111; clear HB; have BK111 := n0_; have HB := n1_; have BK112 := n2_; have GW112 := n3_; have GE112 := n4_; have NB111_112 := n5_; have NB112_111 := n6_; clear n0_ n1_ n2_ n3_ n4_ n5_ n6_; clear hb hbox hg; have hnb11 := NB112_111.out; have hnc11 := NB111_112.out; have hcz12_0 : w10.cell? ⟨gb112, 0, none⟩ = some (.int .u64 0) := (blk_cell BK112.out 0).trans rfl; have hcz12_1 : w10.cell? ⟨gb112, 1, none⟩ = some (.int .u64 0) := (blk_cell BK112.out 1).trans rfl; have hfz12_0 := blk_frozen BK112.out 0; have hfz12_1 := blk_frozen BK112.out 1) | ((with_reducible refine gate_callee (f := 61) rfl ?_); refine goesL_ (some 16) rfl rfl Tryz.func61 (by kernel_rfl) rfl #[.string a0, .int .u8 58] rfl (by (try simp only [List.map_toArray, List.map_cons, List.map_nil]); first | done | rfl | (simp only [List.length_drop, List.length_take]; rfl)) ?_; (with_reducible refine (sallyportref03_cut.calls k a0 58 t113 _ A8.out).mono ?_); rintro e w13 ⟨v114, rfl, ho0, hb⟩; refine ⟨_, rfl, ?_⟩; have n0_ := Aside0.mk (Kd.R_lower ho0 (below_size (by repeat (first | (with_reducible first | exact HB.out | apply below_alloc | apply pw_below_drewN | apply below_drew1 | refine below_set ?_ GE111.out | refine below_set ?_ GE112.out) | exact HB.out)))); have n1_ := Aside0.mk (blk_below (g := gb111) (o := .cells #[.int .u64 0, .int .u64 0] 24 (0, 0)) (by (with_reducible repeat (first | refine blk_drewN ?_ _ | refine blk_drew ?_ | refine blk_alloc ?_ _)); refine blk_far ?_ NB111_112.out _; (with_reducible repeat (first | refine blk_drewN ?_ _ | refine blk_drew ?_ | refine blk_alloc ?_ _)); refine blk_far ?_ NB111_112.out _; (with_reducible repeat (first | refine blk_drewN ?_ _ | refine blk_drew ?_ | refine blk_alloc ?_ _)); exact BK111.out) hb); have n2_ := Aside0.mk (blk_below (g := gb112) (o := .cells #[.int .u64 0, .int .u64 0] 24 (0, 0)) (by (with_reducible repeat (first | refine blk_drewN ?_ _ | refine blk_drew ?_ | refine blk_alloc ?_ _)); refine blk_put (cs := #[.int .u64 0, .int .u64 0]) ?_ 1 _ rfl; (with_reducible repeat (first | refine blk_drewN ?_ _ | refine blk_drew ?_ | refine blk_alloc ?_ _)); refine blk_put (cs := #[.int .u64 0, .int .u64 0]) ?_ 0 _ rfl; (with_reducible repeat (first | refine blk_drewN ?_ _ | refine blk_drew ?_ | refine blk_alloc ?_ _)); exact BK112.out) hb); have n3_ := Aside0.mk (below_step (by repeat (first | (with_reducible first | exact HB.out | apply below_alloc | apply pw_below_drewN | apply below_drew1 | refine below_set ?_ GE111.out | refine below_set ?_ GE112.out) | exact HB.out)) hb); clear BK111; clear BK112; clear HB; have HO115 := n0_; have BK111 := n1_; have BK112 := n2_; have HB := n3_; clear n0_ n1_ n2_ n3_; (try clear hb); (try clear hb2); (try clear hk); (try clear hi); (try clear ho0)))
    go_loopg [7] k (fun kq v7 w' => ∃ (x7_1 : Int) (x112000_1 : Int) (x112001_1 : Int) (x113000_1 : Int) (x113001_1 : Int), v7 = .int .i64 x7_1 ∧ Aside0 (sallyportref03_groups.l0 kq t113 x7_1 x113000_1 x113001_1 = some (r1, r2, r3, r4)) ∧ Aside0 (kq ≤ k) ∧ Aside0 (Kd.R Kd.string 9 w' w.heap.size (fun _ => True) v114 t113) ∧ Aside0 (w'.heap[gb111]? = some (.cells #[.int .u64 x112000_1, .int .u64 x112001_1] 24 (0, 0))) ∧ Aside0 (w'.heap[gb112]? = some (.cells #[.int .u64 x113000_1, .int .u64 x113001_1] 24 (0, 0))) ∧ Aside0 (Below w.heap.size w w'))
    case atStart => exact ⟨(0), (0), (0), (0), (0), (by first | rfl | (simp; done) | (simp [*]; done)), H', ⟨Nat.le_refl _⟩, ⟨by (with_reducible repeat (first | apply Kd.R_alloc | apply Kd.R_drewN | apply Kd.R_drew)); exact HO115.out⟩, ⟨by (with_reducible repeat (first | refine blk_drewN ?_ _ | refine blk_drew ?_ | refine blk_alloc ?_ _)); exact BK111.out⟩, ⟨by (with_reducible repeat (first | refine blk_drewN ?_ _ | refine blk_drew ?_ | refine blk_alloc ?_ _)); exact BK112.out⟩, ⟨by repeat (first | (with_reducible first | exact HB.out | apply below_alloc | apply pw_below_drewN | apply below_drew1 | refine below_set ?_ GE111.out | refine below_set ?_ GE112.out) | exact HB.out)⟩⟩
    case round =>
      clear H'
      try clear c1
      try clear c2
      try clear c2b0
      try clear c2b1
      try clear p2
      try clear c5
      try clear c6
      try clear c11
      try clear hcz12_0
      try clear hcz12_1
      try clear hcz6_0
      try clear hcz6_1
      try clear hcz7_0
      try clear hcz7_1
      try clear hfz12_0
      try clear hfz12_1
      try clear hfz6_0
      try clear hfz6_1
      try clear hfz7_0
      try clear hfz7_1
      obtain ⟨x7_1, x112000_1, x112001_1, x113000_1, x113001_1, rfl, HA, HK1, HO_6, BK111, BK112, HB⟩ := hrel
      cases gk with
      | zero => exact absurd HA.out (by simp [sallyportref03_groups.l0])
      | succ k1 =>
        have H := HA.out
        clear HA
        simp only [sallyportref03_groups.l0] at H
        by_cases c14 : x7_1 < (t113.length : Int)
        · rw [if_pos c14] at H
          have c14b0 : decide (x7_1 < (t113.length : Int)) = true := decide_eq_true c14
          clear c14
          have HC15 := Aside0.mk H
          clear H
          obtain ⟨Ao16, co16, eo16⟩ := Kd.R_slice HO_6.out
          subst eo16
          go_upto_region 8 with (fail)
          go_cut [36] (fun v36 wc => ∃ (kq : Nat) (x36_14 : Bool), v36 = .bool x36_14 ∧ Aside0 (sallyportref03_groups.j1 kq t113 x7_1 x36_14 x113000_1 x113001_1 = some (r1, r2, r3, r4)) ∧ Aside0 (kq ≤ k1) ∧ Aside0 (Kd.R Kd.string 9 wc w.heap.size (fun _ => True) (.slice Ao16 t113.length co16) t113) ∧ Aside0 (wc.heap[gb111]? = some (.cells #[.int .u64 x112000_1, .int .u64 x112001_1] 24 (0, 0))) ∧ Aside0 (wc.heap[gb112]? = some (.cells #[.int .u64 x113000_1, .int .u64 x113001_1] 24 (0, 0))) ∧ Aside0 (Below w.heap.size w wc))
          case first =>
            have H := HC15.out
            clear HC15
            by_cases c17 : 0 ≤ x7_1
            · rw [if_pos c17] at H
              have c17b0 : decide (0 ≤ x7_1) = true := decide_eq_true c17
              clear c17
              (first | rw [c17b0] | (simp only [i64_w, i32_w]; rw [c17b0]) | skip)
              by_cases c18 : ((rdOf ByteArray.empty t113 x7_1).size : Int) < 1
              · rw [if_pos c18] at H
                have c18b0 : decide (((rdOf ByteArray.empty t113 x7_1).size : Int) < 1) = true := decide_eq_true c18
                have c18b1 : decide ((rdOf ByteArray.empty t113 x7_1).size < 1) = true := decide_eq_true (by omega)
                clear c18
                have H' := Aside0.mk H
                clear H
                have p116 : 0 ≤ (x7_1 : Int) := of_decide_eq_true (by first | (with_reducible assumption) | assumption)
                have q116 : x7_1 < (t113.length : Int) := of_decide_eq_true (by first | (with_reducible assumption) | assumption)
                obtain ⟨ad116, e116, hx116_0⟩ := Kd.at_string (Kd.R_reads' HO_6.out).2.2 x7_1 p116 q116
                cases e116
                replace p116 := eq_true p116
                replace q116 := eq_true q116
                go_wp2
                go_meet
                case rel => exact ⟨_, (true), (by first | rfl | (simp; done) | (simp [*]; done)), H', ⟨by have := HK1.out; first | omega | exact Nat.le_refl _⟩, ⟨by (with_reducible repeat (first | apply Kd.R_alloc | apply Kd.R_drewN | apply Kd.R_drew)); exact HO_6.out⟩, ⟨by (with_reducible repeat (first | refine blk_drewN ?_ _ | refine blk_drew ?_ | refine blk_alloc ?_ _)); exact BK111.out⟩, ⟨by (with_reducible repeat (first | refine blk_drewN ?_ _ | refine blk_drew ?_ | refine blk_alloc ?_ _)); exact BK112.out⟩, ⟨by repeat (first | (with_reducible first | exact HB.out | apply below_alloc | apply pw_below_drewN | apply below_drew1 | refine below_set ?_ GE111.out | refine below_set ?_ GE112.out) | exact HB.out)⟩⟩
              · rw [if_neg c18] at H
                have c18b0 : decide (((rdOf ByteArray.empty t113 x7_1).size : Int) < 1) = false := decide_eq_false c18
                have c18b1 : decide ((rdOf ByteArray.empty t113 x7_1).size < 1) = false := decide_eq_false (by omega)
                clear c18
                have H' := Aside0.mk H
                clear H
                have p116 : 0 ≤ (x7_1 : Int) := of_decide_eq_true (by first | (with_reducible assumption) | assumption)
                have q116 : x7_1 < (t113.length : Int) := of_decide_eq_true (by first | (with_reducible assumption) | assumption)
                obtain ⟨ad116, e116, hx116_0⟩ := Kd.at_string (Kd.R_reads' HO_6.out).2.2 x7_1 p116 q116
                cases e116
                replace p116 := eq_true p116
                replace q116 := eq_true q116
                have p117 : 0 ≤ (x7_1 : Int) := of_decide_eq_true (by first | (with_reducible assumption) | assumption)
                have q117 : x7_1 < (t113.length : Int) := of_decide_eq_true (by first | (with_reducible assumption) | assumption)
                obtain ⟨ad117, e117, hx117_0⟩ := Kd.at_string (Kd.R_reads' HO_6.out).2.2 x7_1 p117 q117
                obtain rfl : ad116 = ad117 := (by injection e117)
                replace p117 := eq_true p117
                replace q117 := eq_true q117
                go_wp2
                go_meet
                case rel => exact ⟨_, (decide (((rdOf ByteArray.empty t113 x7_1).size : Int) > 4)), (by first | rfl | (simp; done) | (simp [*]; done)), H', ⟨by have := HK1.out; first | omega | exact Nat.le_refl _⟩, ⟨by (with_reducible repeat (first | apply Kd.R_alloc | apply Kd.R_drewN | apply Kd.R_drew)); exact HO_6.out⟩, ⟨by (with_reducible repeat (first | refine blk_drewN ?_ _ | refine blk_drew ?_ | refine blk_alloc ?_ _)); exact BK111.out⟩, ⟨by (with_reducible repeat (first | refine blk_drewN ?_ _ | refine blk_drew ?_ | refine blk_alloc ?_ _)); exact BK112.out⟩, ⟨by repeat (first | (with_reducible first | exact HB.out | apply below_alloc | apply pw_below_drewN | apply below_drew1 | refine below_set ?_ GE111.out | refine below_set ?_ GE112.out) | exact HB.out)⟩⟩
            · rw [if_neg c17] at H
              exact absurd H (by simp)
          case rest =>
            clear HC15
            try clear c1
            try clear p1
            try clear q1
            try clear hx1
            try clear c2
            try clear c2b0
            try clear c2b1
            try clear p2
            try clear c5
            try clear c6
            try clear c11
            try clear p11
            try clear q11
            try clear hx11
            try clear c14
            try clear c14b0
            try clear c17
            try clear c17b0
            try clear c18
            try clear c18b0
            try clear c18b1
            try clear hcz12_0
            try clear hcz12_1
            try clear hcz6_0
            try clear hcz6_1
            try clear hcz7_0
            try clear hcz7_1
            try clear hfz12_0
            try clear hfz12_1
            try clear hfz6_0
            try clear hfz6_1
            try clear hfz7_0
            try clear hfz7_1
            try clear hx116_0
            try clear hx117_0
            try clear p116
            try clear p117
            try clear p2
            try clear q116
            try clear q117
            obtain ⟨kq, x36_14, rfl, HA, HJ14, HO_6, BK111, BK112, HB⟩ := hcut
            cases kq with
            | zero => exact absurd HA.out (by simp [sallyportref03_groups.j1])
            | succ kj14 =>
              have H := HA.out
              clear HA
              simp only [sallyportref03_groups.j1] at H
              by_cases c19 : x36_14 = true
              · subst c19
                have H1 : (some (x113000_1, x113001_1, 0, false)) = some (r1, r2, r3, r4) := by rw [if_pos rfl] at H; exact H
                clear H
                have H := H1
                clear H1
                simp only [Option.some.injEq, Prod.mk.injEq] at H
                obtain ⟨rfl, rfl, rfl, rfl⟩ := H
                have hnb20 := NB112_111.out
                have hnc20 := NB111_112.out
                have hcz21_0 : wc.cell? ⟨gb112, 0, none⟩ = some (.int .u64 x113000_1) := (blk_cell BK112.out 0).trans rfl
                have hcz21_1 : wc.cell? ⟨gb112, 1, none⟩ = some (.int .u64 x113001_1) := (blk_cell BK112.out 1).trans rfl
                have hfz21_0 := blk_frozen BK112.out 0
                have hfz21_1 := blk_frozen BK112.out 1
                have hcz22_0 : wc.cell? ⟨gb111, 0, none⟩ = some (.int .u64 x112000_1) := (blk_cell BK111.out 0).trans rfl
                have hcz22_1 : wc.cell? ⟨gb111, 1, none⟩ = some (.int .u64 x112001_1) := (blk_cell BK111.out 1).trans rfl
                have hfz22_0 := blk_frozen BK111.out 0
                have hfz22_1 := blk_frozen BK111.out 1
                go_wp2
                refine bodyPost_ret (results_ctt rfl _ _ gb111 24 #[.int .u64 x113000_1, .int .u64 x113001_1] (0, 0) _ rfl (by (with_reducible repeat (first | refine blk_drewN ?_ _ | refine blk_drew ?_ | refine blk_alloc ?_ _)); refine blk_put (cs := #[.int .u64 x113000_1, .int .u64 x112001_1]) ?_ 1 _ rfl; (with_reducible repeat (first | refine blk_drewN ?_ _ | refine blk_drew ?_ | refine blk_alloc ?_ _)); refine blk_put (cs := #[.int .u64 x112000_1, .int .u64 x112001_1]) ?_ 0 _ rfl; (with_reducible repeat (first | refine blk_drewN ?_ _ | refine blk_drew ?_ | refine blk_alloc ?_ _)); exact BK111.out) Tryz.underlying24 rfl (by kernel_rfl)) rfl ?_
                exact ⟨by first | rfl | (simp [errW_none, errW_some] <;> rfl) | (simp [*, errW_none, errW_some] <;> rfl), by repeat (first | (with_reducible first | exact HB.out | apply below_alloc | apply pw_below_drewN | apply below_drew1 | refine below_set ?_ GE111.out | refine below_set ?_ GE112.out) | exact HB.out)⟩
              · replace c19 := Bool.eq_false_iff.mpr c19
                subst c19
                have H1 : (sallyportref03_groups.l1 kj14 t113 x7_1 0 0 x113000_1 x113001_1) = some (r1, r2, r3, r4) := by rw [if_neg (show ¬ (false = true) by decide)] at H; exact H
                clear H
                have H := H1
                clear H1
                have H' := Aside0.mk H
                clear H
                go_wp2
                go_loopg [8, 9] kj14 (fun kq v8 v9 w' => ∃ (x8_3 : Int) (x9_3 : Int) (x112000_3 : Int) (x112001_3 : Int), v8 = .int .i64 x8_3 ∧ v9 = .int .i64 x9_3 ∧ Aside0 (sallyportref03_groups.l1 kq t113 x7_1 x8_3 x9_3 x113000_1 x113001_1 = some (r1, r2, r3, r4)) ∧ Aside0 (kq ≤ kj14) ∧ Aside0 (Kd.R Kd.string 9 w' w.heap.size (fun _ => True) (.slice Ao16 t113.length co16) t113) ∧ Aside0 (w'.heap[gb111]? = some (.cells #[.int .u64 x112000_3, .int .u64 x112001_3] 24 (0, 0))) ∧ Aside0 (w'.heap[gb112]? = some (.cells #[.int .u64 x113000_1, .int .u64 x113001_1] 24 (0, 0))) ∧ Aside0 (Below w.heap.size w w'))
                case atStart => exact ⟨(0), (0), (x112000_1), (x112001_1), (by first | rfl | (simp; done) | (simp [*]; done)), (by first | rfl | (simp; done) | (simp [*]; done)), H', ⟨Nat.le_refl _⟩, ⟨by (with_reducible repeat (first | apply Kd.R_alloc | apply Kd.R_drewN | apply Kd.R_drew)); exact HO_6.out⟩, ⟨by (with_reducible repeat (first | refine blk_drewN ?_ _ | refine blk_drew ?_ | refine blk_alloc ?_ _)); exact BK111.out⟩, ⟨by (with_reducible repeat (first | refine blk_drewN ?_ _ | refine blk_drew ?_ | refine blk_alloc ?_ _)); exact BK112.out⟩, ⟨by repeat (first | (with_reducible first | exact HB.out | apply below_alloc | apply pw_below_drewN | apply below_drew1 | refine below_set ?_ GE111.out | refine below_set ?_ GE112.out) | exact HB.out)⟩⟩
                case round =>
                  clear H'
                  try clear c1
                  try clear p1
                  try clear q1
                  try clear hx1
                  try clear c2
                  try clear c2b0
                  try clear c2b1
                  try clear p2
                  try clear c5
                  try clear c6
                  try clear c11
                  try clear p11
                  try clear q11
                  try clear hx11
                  try clear c14
                  try clear c14b0
                  try clear c17
                  try clear c17b0
                  try clear c18
                  try clear c18b0
                  try clear c18b1
                  try clear c19
                  try clear c20
                  try clear hcz12_0
                  try clear hcz12_1
                  try clear hcz21_0
                  try clear hcz21_1
                  try clear hcz22_0
                  try clear hcz22_1
                  try clear hcz6_0
                  try clear hcz6_1
                  try clear hcz7_0
                  try clear hcz7_1
                  try clear hfz12_0
                  try clear hfz12_1
                  try clear hfz21_0
                  try clear hfz21_1
                  try clear hfz22_0
                  try clear hfz22_1
                  try clear hfz6_0
                  try clear hfz6_1
                  try clear hfz7_0
                  try clear hfz7_1
                  try clear hx116_0
                  try clear hx117_0
                  try clear p1
                  try clear p11
                  try clear p116
                  try clear p117
                  try clear p2
                  try clear q1
                  try clear q11
                  try clear q116
                  try clear q117
                  obtain ⟨x8_3, x9_3, x112000_3, x112001_3, rfl, rfl, HA, HK3, HO_6, BK111, BK112, HB⟩ := hrel
                  cases gk with
                  | zero => exact absurd HA.out (by simp [sallyportref03_groups.l1])
                  | succ k3 =>
                    have H := HA.out
                    clear HA
                    simp only [sallyportref03_groups.l1] at H
                    by_cases c23 : 0 ≤ x7_1
                    · rw [if_pos c23] at H
                      have c23b0 : decide (0 ≤ x7_1) = true := decide_eq_true c23
                      clear c23
                      by_cases c24 : x7_1 < (t113.length : Int)
                      · rw [if_pos c24] at H
                        have c24b0 : decide (x7_1 < (t113.length : Int)) = true := decide_eq_true c24
                        clear c24
                        by_cases c25 : x9_3 < ((rdOf ByteArray.empty t113 x7_1).size : Int)
                        · rw [if_pos c25] at H
                          have c25b0 : decide (x9_3 < ((rdOf ByteArray.empty t113 x7_1).size : Int)) = true := decide_eq_true c25
                          clear c25
                          by_cases c26 : 0 ≤ x9_3
                          · rw [if_pos c26] at H
                            have c26b0 : decide (0 ≤ x9_3) = true := decide_eq_true c26
                            clear c26
                            replace H := Option.bind_eq_some_iff.mp H
                            obtain ⟨t120, A280, H⟩ := H
                            replace H : (if t120 < 0 then (some (x113000_1, x113001_1, 0, false)) else (sallyportref03_groups.l1 k3 t113 x7_1 (wrap64 ((wrap64 (x8_3 * 16)) + t120)) (wrap64 (x9_3 + 1)) x113000_1 x113001_1)) = some (r1, r2, r3, r4) := H
                            have A28 := Aside0.mk A280
                            clear A280
                            by_cases c29 : t120 < 0
                            · rw [if_pos c29] at H
                              have c29b0 : decide (t120 < 0) = true := decide_eq_true c29
                              clear c29
                              simp only [Option.some.injEq, Prod.mk.injEq] at H
                              obtain ⟨rfl, rfl, rfl, rfl⟩ := H
                              have p118 : 0 ≤ (x7_1 : Int) := of_decide_eq_true (by first | (with_reducible assumption) | assumption)
                              have q118 : x7_1 < (t113.length : Int) := of_decide_eq_true (by first | (with_reducible assumption) | assumption)
                              obtain ⟨ad118, e118, hx118_0⟩ := Kd.at_string (Kd.R_reads' HO_6.out).2.2 x7_1 p118 q118
                              cases e118
                              replace p118 := eq_true p118
                              replace q118 := eq_true q118
                              have p119 : 0 ≤ (x7_1 : Int) := of_decide_eq_true (by first | (with_reducible assumption) | assumption)
                              have q119 : x7_1 < (t113.length : Int) := of_decide_eq_true (by first | (with_reducible assumption) | assumption)
                              obtain ⟨ad119, e119, hx119_0⟩ := Kd.at_string (Kd.R_reads' HO_6.out).2.2 x7_1 p119 q119
                              obtain rfl : ad118 = ad119 := (by injection e119)
                              replace p119 := eq_true p119
                              replace q119 := eq_true q119
                              have p27 : 0 ≤ (x9_3 : Int) := of_decide_eq_true (by first | (with_reducible assumption) | assumption)
                              have q27 : x9_3 < ((rdOf ByteArray.empty t113 x7_1).size : Int) := of_decide_eq_true (by first | (with_reducible assumption) | assumption)
                              have hx27 := bt_at (rdOf ByteArray.empty t113 x7_1) x9_3
                              replace p27 := eq_true p27
                              replace q27 := eq_true q27
                              go_wp2_with (first | ((with_reducible refine gate_callee (f := 82) rfl ?_); refine goesL_ (some 53) rfl rfl Tryz.func82 (by kernel_rfl) rfl #[.int .u8 (bt (rdOf ByteArray.empty t113 x7_1) x9_3)] rfl (by (try simp only [List.map_toArray, List.map_cons, List.map_nil]); first | done | rfl | (simp only [List.length_drop, List.length_take]; rfl)) ?_; (with_reducible refine (sallyportref03_hex.calls k3 (bt (rdOf ByteArray.empty t113 x7_1) x9_3) t120 _ A28.out).mono ?_); rintro e w' ⟨rfl, ⟨nd, rfl⟩⟩; refine ⟨_, rfl, ?_⟩; (try (rw [drewN_self wr]; generalize hq_ : World.drewN wr _ = wr; have n0_ : Aside0 (Kd.R Kd.string 9 wr w.heap.size (fun _ => True) (.slice (some ad118) t113.length co16) t113) := ⟨by rw [← hq_]; exact (by (with_reducible repeat (first | apply Kd.R_alloc | apply Kd.R_drewN | apply Kd.R_drew)); exact HO_6.out)⟩; have n1_ : Aside0 (wr.heap[gb111]? = some (.cells #[.int .u64 x112000_3, .int .u64 x112001_3] 24 (0, 0))) := ⟨by rw [← hq_]; exact (by (with_reducible repeat (first | refine blk_drewN ?_ _ | refine blk_drew ?_ | refine blk_alloc ?_ _)); exact BK111.out)⟩; have n2_ : Aside0 (wr.heap[gb112]? = some (.cells #[.int .u64 x113000_1, .int .u64 x113001_1] 24 (0, 0))) := ⟨by rw [← hq_]; exact (by (with_reducible repeat (first | refine blk_drewN ?_ _ | refine blk_drew ?_ | refine blk_alloc ?_ _)); exact BK112.out)⟩; have n3_ : Aside0 (Below w.heap.size w wr) := ⟨by rw [← hq_]; exact (by repeat (first | (with_reducible first | exact HB.out | apply below_alloc | apply pw_below_drewN | apply below_drew1 | refine below_set ?_ GE111.out | refine below_set ?_ GE112.out) | exact HB.out))⟩; clear HO_6 BK111 BK112 HB hq_; have HO_6 := n0_; have BK111 := n1_; have BK112 := n2_; have HB := n3_; clear n0_ n1_ n2_ n3_)); have hnb30 := NB112_111.out; have hnc30 := NB111_112.out; have hcz31_0 : wr.cell? ⟨gb112, 0, none⟩ = some (.int .u64 x113000_1) := (blk_cell BK112.out 0).trans rfl; have hcz31_1 : wr.cell? ⟨gb112, 1, none⟩ = some (.int .u64 x113001_1) := (blk_cell BK112.out 1).trans rfl; have hfz31_0 := blk_frozen BK112.out 0; have hfz31_1 := blk_frozen BK112.out 1; have hcz32_0 : wr.cell? ⟨gb111, 0, none⟩ = some (.int .u64 x112000_3) := (blk_cell BK111.out 0).trans rfl; have hcz32_1 : wr.cell? ⟨gb111, 1, none⟩ = some (.int .u64 x112001_3) := (blk_cell BK111.out 1).trans rfl; have hfz32_0 := blk_frozen BK111.out 0; have hfz32_1 := blk_frozen BK111.out 1))
                              refine bodyPost_ret (results_ctt rfl _ _ gb111 24 #[.int .u64 x113000_1, .int .u64 x113001_1] (0, 0) _ rfl (by (with_reducible repeat (first | refine blk_drewN ?_ _ | refine blk_drew ?_ | refine blk_alloc ?_ _)); refine blk_put (cs := #[.int .u64 x113000_1, .int .u64 x112001_3]) ?_ 1 _ rfl; (with_reducible repeat (first | refine blk_drewN ?_ _ | refine blk_drew ?_ | refine blk_alloc ?_ _)); refine blk_put (cs := #[.int .u64 x112000_3, .int .u64 x112001_3]) ?_ 0 _ rfl; (with_reducible repeat (first | refine blk_drewN ?_ _ | refine blk_drew ?_ | refine blk_alloc ?_ _)); exact BK111.out) Tryz.underlying24 rfl (by kernel_rfl)) rfl ?_
                              exact ⟨by first | rfl | (simp [errW_none, errW_some] <;> rfl) | (simp [*, errW_none, errW_some] <;> rfl), by repeat (first | (with_reducible first | exact HB.out | apply below_alloc | apply pw_below_drewN | apply below_drew1 | refine below_set ?_ GE111.out | refine below_set ?_ GE112.out) | exact HB.out)⟩
                            · rw [if_neg c29] at H
                              have c29b0 : decide (t120 < 0) = false := decide_eq_false c29
                              clear c29
                              have H' := Aside0.mk H
                              clear H
                              have p118 : 0 ≤ (x7_1 : Int) := of_decide_eq_true (by first | (with_reducible assumption) | assumption)
                              have q118 : x7_1 < (t113.length : Int) := of_decide_eq_true (by first | (with_reducible assumption) | assumption)
                              obtain ⟨ad118, e118, hx118_0⟩ := Kd.at_string (Kd.R_reads' HO_6.out).2.2 x7_1 p118 q118
                              cases e118
                              replace p118 := eq_true p118
                              replace q118 := eq_true q118
                              have p119 : 0 ≤ (x7_1 : Int) := of_decide_eq_true (by first | (with_reducible assumption) | assumption)
                              have q119 : x7_1 < (t113.length : Int) := of_decide_eq_true (by first | (with_reducible assumption) | assumption)
                              obtain ⟨ad119, e119, hx119_0⟩ := Kd.at_string (Kd.R_reads' HO_6.out).2.2 x7_1 p119 q119
                              obtain rfl : ad118 = ad119 := (by injection e119)
                              replace p119 := eq_true p119
                              replace q119 := eq_true q119
                              have p27 : 0 ≤ (x9_3 : Int) := of_decide_eq_true (by first | (with_reducible assumption) | assumption)
                              have q27 : x9_3 < ((rdOf ByteArray.empty t113 x7_1).size : Int) := of_decide_eq_true (by first | (with_reducible assumption) | assumption)
                              have hx27 := bt_at (rdOf ByteArray.empty t113 x7_1) x9_3
                              replace p27 := eq_true p27
                              replace q27 := eq_true q27
                              go_wp2_with (first | ((with_reducible refine gate_callee (f := 82) rfl ?_); refine goesL_ (some 53) rfl rfl Tryz.func82 (by kernel_rfl) rfl #[.int .u8 (bt (rdOf ByteArray.empty t113 x7_1) x9_3)] rfl (by (try simp only [List.map_toArray, List.map_cons, List.map_nil]); first | done | rfl | (simp only [List.length_drop, List.length_take]; rfl)) ?_; (with_reducible refine (sallyportref03_hex.calls k3 (bt (rdOf ByteArray.empty t113 x7_1) x9_3) t120 _ A28.out).mono ?_); rintro e w' ⟨rfl, ⟨nd, rfl⟩⟩; refine ⟨_, rfl, ?_⟩))
                              go_roundg k3
                              case measure => have := HK1.out; have := HJ14.out; have := HK3.out; omega
                              case rel => exact ⟨(wrap64 ((wrap64 (x8_3 * 16)) + t120)), (wrap64 (x9_3 + 1)), (x112000_3), (x112001_3), (by first | rfl | (simp; done) | (simp [*]; done)), (by first | rfl | (simp; done) | (simp [*]; done)), H', ⟨by have := HK1.out; have := HJ14.out; have := HK3.out; omega⟩, ⟨by (with_reducible repeat (first | apply Kd.R_alloc | apply Kd.R_drewN | apply Kd.R_drew)); exact HO_6.out⟩, ⟨by (with_reducible repeat (first | refine blk_drewN ?_ _ | refine blk_drew ?_ | refine blk_alloc ?_ _)); exact BK111.out⟩, ⟨by (with_reducible repeat (first | refine blk_drewN ?_ _ | refine blk_drew ?_ | refine blk_alloc ?_ _)); exact BK112.out⟩, ⟨by repeat (first | (with_reducible first | exact HB.out | apply below_alloc | apply pw_below_drewN | apply below_drew1 | refine below_set ?_ GE111.out | refine below_set ?_ GE112.out) | exact HB.out)⟩⟩
                          · rw [if_neg c26] at H
                            exact absurd H (by simp)
                        · rw [if_neg c25] at H
                          have c25b0 : decide (x9_3 < ((rdOf ByteArray.empty t113 x7_1).size : Int)) = false := decide_eq_false c25
                          clear c25
                          have H' := Aside0.mk H
                          clear H
                          have p118 : 0 ≤ (x7_1 : Int) := of_decide_eq_true (by first | (with_reducible assumption) | assumption)
                          have q118 : x7_1 < (t113.length : Int) := of_decide_eq_true (by first | (with_reducible assumption) | assumption)
                          obtain ⟨ad118, e118, hx118_0⟩ := Kd.at_string (Kd.R_reads' HO_6.out).2.2 x7_1 p118 q118
                          cases e118
                          replace p118 := eq_true p118
                          replace q118 := eq_true q118
                          have hnb33 := NB112_111.out
                          have hnc33 := NB111_112.out
                          have hcz34_0 : wr.cell? ⟨gb112, 0, none⟩ = some (.int .u64 x113000_1) := (blk_cell BK112.out 0).trans rfl
                          have hcz34_1 : wr.cell? ⟨gb112, 1, none⟩ = some (.int .u64 x113001_1) := (blk_cell BK112.out 1).trans rfl
                          have hfz34_0 := blk_frozen BK112.out 0
                          have hfz34_1 := blk_frozen BK112.out 1
                          go_wp2
                          go_roundg k3
                          case measure => have := HK1.out; have := HJ14.out; have := HK3.out; omega
                          case rel => exact ⟨(wrap64 (x7_1 + 1)), (x112000_3), (x112001_3), (Go.bits .or .u64 (IntKind.u64.wrap (x113000_1 * 65536)) (x113001_1 / 281474976710656)), (Go.bits .or .u64 (IntKind.u64.wrap (x113001_1 * 65536)) (IntKind.u64.wrap (x8_3))), (by first | rfl | (simp; done) | (simp [*]; done)), H', ⟨by have := HK1.out; have := HJ14.out; have := HK3.out; omega⟩, ⟨by (with_reducible repeat (first | apply Kd.R_alloc | apply Kd.R_drewN | apply Kd.R_drew)); exact Kd.R_mono (Kd.R_far (p := ⟨gb112, 1, none⟩) (Kd.R_far (p := ⟨gb112, 0, none⟩) (Kd.R_types HO_6.out BK112.out (by decide)) (fun _ hk => hk.2) (.int .u64 (Go.bits .or .u64 (IntKind.u64.wrap (x113000_1 * 65536)) (x113001_1 / 281474976710656)))) (fun _ hk => hk.2) (.int .u64 (Go.bits .or .u64 (IntKind.u64.wrap (x113001_1 * 65536)) (IntKind.u64.wrap (x8_3))))) (fun _ hk => trivial)⟩, ⟨by (with_reducible repeat (first | refine blk_drewN ?_ _ | refine blk_drew ?_ | refine blk_alloc ?_ _)); refine blk_far ?_ NB111_112.out _; (with_reducible repeat (first | refine blk_drewN ?_ _ | refine blk_drew ?_ | refine blk_alloc ?_ _)); refine blk_far ?_ NB111_112.out _; (with_reducible repeat (first | refine blk_drewN ?_ _ | refine blk_drew ?_ | refine blk_alloc ?_ _)); exact BK111.out⟩, ⟨by (with_reducible repeat (first | refine blk_drewN ?_ _ | refine blk_drew ?_ | refine blk_alloc ?_ _)); refine blk_put (cs := #[.int .u64 (Go.bits .or .u64 (IntKind.u64.wrap (x113000_1 * 65536)) (x113001_1 / 281474976710656)), .int .u64 x113001_1]) ?_ 1 _ rfl; (with_reducible repeat (first | refine blk_drewN ?_ _ | refine blk_drew ?_ | refine blk_alloc ?_ _)); refine blk_put (cs := #[.int .u64 x113000_1, .int .u64 x113001_1]) ?_ 0 _ rfl; (with_reducible repeat (first | refine blk_drewN ?_ _ | refine blk_drew ?_ | refine blk_alloc ?_ _)); exact BK112.out⟩, ⟨by repeat (first | (with_reducible first | exact HB.out | apply below_alloc | apply pw_below_drewN | apply below_drew1 | refine below_set ?_ GE111.out | refine below_set ?_ GE112.out) | exact HB.out)⟩⟩
                      · rw [if_neg c24] at H
                        exact absurd H (by simp)
                    · rw [if_neg c23] at H
                      exact absurd H (by simp)
        · rw [if_neg c14] at H
          have c14b0 : decide (x7_1 < (t113.length : Int)) = false := decide_eq_false c14
          clear c14
          simp only [Option.some.injEq, Prod.mk.injEq] at H
          obtain ⟨rfl, rfl, rfl, rfl⟩ := H
          obtain ⟨Ao35, co35, eo35⟩ := Kd.R_slice HO_6.out
          subst eo35
          have hnb36 := NB112_111.out
          have hnc36 := NB111_112.out
          have hcz37_0 : wr.cell? ⟨gb112, 0, none⟩ = some (.int .u64 x113000_1) := (blk_cell BK112.out 0).trans rfl
          have hcz37_1 : wr.cell? ⟨gb112, 1, none⟩ = some (.int .u64 x113001_1) := (blk_cell BK112.out 1).trans rfl
          have hfz37_0 := blk_frozen BK112.out 0
          have hfz37_1 := blk_frozen BK112.out 1
          have hcz38_0 : wr.cell? ⟨gb111, 0, none⟩ = some (.int .u64 x112000_1) := (blk_cell BK111.out 0).trans rfl
          have hcz38_1 : wr.cell? ⟨gb111, 1, none⟩ = some (.int .u64 x112001_1) := (blk_cell BK111.out 1).trans rfl
          have hfz38_0 := blk_frozen BK111.out 0
          have hfz38_1 := blk_frozen BK111.out 1
          go_wp2
          refine bodyPost_ret (results_ctt rfl _ _ gb111 24 #[.int .u64 x113000_1, .int .u64 x113001_1] (0, 0) _ rfl (by (with_reducible repeat (first | refine blk_drewN ?_ _ | refine blk_drew ?_ | refine blk_alloc ?_ _)); refine blk_put (cs := #[.int .u64 x113000_1, .int .u64 x112001_1]) ?_ 1 _ rfl; (with_reducible repeat (first | refine blk_drewN ?_ _ | refine blk_drew ?_ | refine blk_alloc ?_ _)); refine blk_put (cs := #[.int .u64 x112000_1, .int .u64 x112001_1]) ?_ 0 _ rfl; (with_reducible repeat (first | refine blk_drewN ?_ _ | refine blk_drew ?_ | refine blk_alloc ?_ _)); exact BK111.out) Tryz.underlying24 rfl (by kernel_rfl)) rfl ?_
          exact ⟨by first | rfl | (simp [errW_none, errW_some] <;> rfl) | (simp [*, errW_none, errW_some] <;> rfl), by repeat (first | (with_reducible first | exact HB.out | apply below_alloc | apply pw_below_drewN | apply below_drew1 | refine below_set ?_ GE111.out | refine below_set ?_ GE112.out) | exact HB.out)⟩

end Go.Proofs.YtgbkeciimddpnaaGreatDoor.Print
