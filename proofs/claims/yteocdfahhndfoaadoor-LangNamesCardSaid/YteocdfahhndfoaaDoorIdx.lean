/-
slices.IndexFunc and slices.ContainsFunc at slices of the configuration's structs, for whatever function value that answers a bool and at most makes memory. Printed by idxgen.py for this work.
Conditions: the slices are no longer than the reach.
-/
import Derived.Test.YteocdfahhndfoaaDoorKinds
import Derived.Test.YteocdfahhndfoaaDoorProg
import Derived.WalkKit
import Derived.Deep.LoopGhost
import Derived.Shelf.RegionOpenPlain
import Derived.Below
namespace Go.Proofs.YteocdfahhndfoaaDoor.Print
open Go.RowKit Go.Proofs.YteocdfahhndfoaaDoorW.PrintWords

/-- The first place at which p holds; -1: none. -/
def idxP {α : Type} (p : α → Bool) : List α → Int → Int
  | [], _ => -1
  | x :: l, i => if p x then i else idxP p l (i + 1)

theorem idxP_neg {α : Type} (p : α → Bool) : ∀ (l : List α) (i : Int), 0 ≤ i → (idxP p l i = -1 ∧ l.any p = false) ∨ (i ≤ idxP p l i ∧ l.any p = true)
  | [], i, _ => Or.inl ⟨rfl, rfl⟩
  | x :: l, i, h => by
    unfold idxP
    cases hx : p x
    · simp only [Bool.false_eq_true, if_false, List.any_cons, hx, Bool.false_or]
      rcases idxP_neg p l (i + 1) (by omega) with ⟨a, b⟩ | ⟨a, b⟩
      · exact Or.inl ⟨a, b⟩
      · exact Or.inr ⟨by omega, b⟩
    · simp only [if_true, List.any_cons, hx, Bool.true_or]
      exact Or.inr ⟨Int.le_refl _, trivial⟩

theorem at_drop {α : Type} (z : α) (xs : List α) (k : Nat) (h : k < xs.length) : xs.drop k = xs.getD k z :: xs.drop (k + 1) ∧ xs.getD k z ∈ xs := by
  have hd : xs.drop k = xs.getD k z :: xs.drop (k + 1) := by
    rw [List.drop_eq_getElem_cons h, List.getD_eq_getElem?_getD, List.getElem?_eq_getElem h]
    rfl
  exact ⟨hd, List.mem_of_mem_drop (by rw [hd]; exact List.mem_cons_self)⟩

set_option maxHeartbeats 1600000 in
theorem indexFunc_Zone (p : S47 → Bool) (g : Nat) (lb : Array Value) (eg : ∀ args w, (callFunc g args).run Tryd.prog w = .ok (.enter g args) w) (A : Option Addr) (c : Nat) (xs : List S47) (w : World) (hr : Kd.C k47 w A xs.length xs) (hl : xs.length ≤ 140737488351232)
    (hp : Aside0 (∀ (W : World) (x : S47) (cs : List Value), Below w.heap.size w W → x ∈ xs → k47.K W x cs → Calls Tryd.prog g (#[.agg cs.toArray] ++ lb) W fun e w' => e = .returned (.bool (p x)) ∧ Below W.heap.size W w')) :
    Calls Tryd.prog 49 #[.slice A xs.length c, .func (.func g) #[] lb] w fun e w' => e = .returned (.int .i64 (idxP p xs 0)) ∧ Below w.heap.size w w' := by
  have HR := Aside0.mk hr
  clear hr
  go_enter Tryd.func49, Tryd.ntmps49
  go_wp2_with fail
  go_loopg [5, 8] xs.length (fun gg _ s8 wr => ∃ k : Nat, k ≤ xs.length ∧ xs.length - k ≤ gg ∧ s8 = .int .i64 k ∧ Aside0 (Below w.heap.size w wr) ∧ Aside0 (idxP p xs 0 = idxP p (xs.drop k) k))
  case atStart => exact ⟨0, by omega, by omega, rfl, ⟨Below.refl _ _⟩, ⟨by simp⟩⟩
  case round =>
    obtain ⟨k, h1, hg, rfl, BW, HX⟩ := hrel
    by_cases hlt : k < xs.length
    · obtain ⟨hd, hmem⟩ := at_drop z47 xs k hlt
      obtain ⟨ad, cs, rfl, _, hK, hcell0⟩ := Kd.C_get (Kd.C_below HR.out BW.out) z47 (k : Int) (by omega) (by omega)
      rw [Int.toNat_natCast] at hK hcell0
      have hcell := Aside0.mk (show ∀ j u, cs[j]? = some u → wr.cell? (ad.add (k * 4 + j)) = some u from hcell0)
      clear hcell0
      have hcall := Aside0.mk (hp.out _ _ cs BW.out hmem hK)
      have HX2 := HX.out
      rw [hd] at HX2
      have HX3 := Aside0.mk HX2
      clear HX HX2 hd hmem
      generalize xs.getD k z47 = y at hcall HX3 hK
      obtain ⟨B3, d3, rfl, e3, g3⟩ := k47_open hK
      have hx0 : wr.cell? (ad.add (k * 4)) = some (.string y.f0) := hcell.out 0 _ rfl
      have hx1 : wr.cell? ⟨(ad.add (k * 4)).block, (ad.add (k * 4)).off + 1, none⟩ = some (.int .u64 y.f1.f0) := by rw [← add_field _ _ 1 (by omega)]; exact hcell.out 1 _ rfl
      have hx2 : wr.cell? ⟨(ad.add (k * 4)).block, (ad.add (k * 4)).off + 2, none⟩ = some (.int .u64 y.f1.f1) := by rw [← add_field _ _ 2 (by omega)]; exact hcell.out 2 _ rfl
      have hx3 : wr.cell? ⟨(ad.add (k * 4)).block, (ad.add (k * 4)).off + 3, none⟩ = some (.slice B3 y.f2.length d3) := by rw [← add_field _ _ 3 (by omega)]; exact hcell.out 3 _ rfl
      clear hp HR hcell hK
      cases hq : p y with
      | true =>
        have Hfin : Aside0 (idxP p xs 0 = k) := ⟨by rw [HX3.out]; simp [idxP, hq]⟩
        have Hc := hcall.out
        rw [hq] at Hc
        have Hd := Aside0.mk Hc
        clear hq HX3 hcall Hc
        go_wp2_with (go_at_fn g; refine Hd.out.mono ?_; rintro e w' ⟨rfl, hb'⟩)
        go_ret
        exact ⟨by rw [Hfin.out]; rfl, BW.out.trans (hb'.mono BW.out.size)⟩
      | false =>
        have Hfin : Aside0 (idxP p xs 0 = idxP p (xs.drop (k + 1)) ((k + 1 : Nat) : Int)) := ⟨by rw [HX3.out]; simp [idxP, hq]⟩
        have Hc := hcall.out
        rw [hq] at Hc
        have Hd := Aside0.mk Hc
        clear hq HX3 hcall Hc
        go_wp2_with (go_at_fn g; refine Hd.out.mono ?_; rintro e w' ⟨rfl, hb'⟩)
        go_roundg (xs.length - (k + 1))
        case measure => omega
        case rel => exact ⟨k + 1, by omega, by omega, by go_num, ⟨BW.out.trans (hb'.mono BW.out.size)⟩, Hfin⟩
    · have Hfin : Aside0 (idxP p xs 0 = -1) := ⟨by rw [HX.out, List.drop_eq_nil_of_le (by omega)]; rfl⟩
      clear HX
      go_wp2_with fail
      go_ret
      exact ⟨by rw [Hfin.out]; rfl, BW.out⟩

set_option maxHeartbeats 1600000 in
theorem containsFunc_Zone (p : S47 → Bool) (g : Nat) (lb : Array Value) (eg : ∀ args w, (callFunc g args).run Tryd.prog w = .ok (.enter g args) w) (A : Option Addr) (c : Nat) (xs : List S47) (w : World) (hr : Kd.C k47 w A xs.length xs) (hl : xs.length ≤ 140737488351232)
    (hp : Aside0 (∀ (W : World) (x : S47) (cs : List Value), Below w.heap.size w W → x ∈ xs → k47.K W x cs → Calls Tryd.prog g (#[.agg cs.toArray] ++ lb) W fun e w' => e = .returned (.bool (p x)) ∧ Below W.heap.size W w')) :
    Calls Tryd.prog 26 #[.slice A xs.length c, .func (.func g) #[] lb] w fun e w' => e = .returned (.bool (xs.any p)) ∧ Below w.heap.size w w' := by
  have HX := Aside0.mk (idxP_neg p xs 0 (Int.le_refl _))
  have Hc := Aside0.mk (indexFunc_Zone p g lb eg A c xs w hr hl hp)
  clear hr hp eg
  generalize idxP p xs 0 = i at HX Hc
  go_enter Tryd.func26, Tryd.ntmps26
  go_wp2_with fail
  refine Hc.out.mono ?_
  rintro e w' ⟨rfl, hb⟩
  rcases HX.out with ⟨a, b⟩ | ⟨a, b⟩
  · subst a
    have B := Aside0.mk b
    clear b HX
    go_wp2_with fail
    go_ret
    exact ⟨by rw [B.out]; rfl, hb⟩
  · have B := Aside0.mk b
    clear b HX
    go_wp2_with fail
    go_ret
    exact ⟨by rw [B.out]; simp, hb⟩

set_option maxHeartbeats 1600000 in
theorem indexFunc_Object (p : S53 → Bool) (g : Nat) (lb : Array Value) (eg : ∀ args w, (callFunc g args).run Tryd.prog w = .ok (.enter g args) w) (A : Option Addr) (c : Nat) (xs : List S53) (w : World) (hr : Kd.C k53 w A xs.length xs) (hl : xs.length ≤ 140737488351232)
    (hp : Aside0 (∀ (W : World) (x : S53) (cs : List Value), Below w.heap.size w W → x ∈ xs → k53.K W x cs → Calls Tryd.prog g (#[.agg cs.toArray] ++ lb) W fun e w' => e = .returned (.bool (p x)) ∧ Below W.heap.size W w')) :
    Calls Tryd.prog 60 #[.slice A xs.length c, .func (.func g) #[] lb] w fun e w' => e = .returned (.int .i64 (idxP p xs 0)) ∧ Below w.heap.size w w' := by
  have HR := Aside0.mk hr
  clear hr
  go_enter Tryd.func60, Tryd.ntmps60
  go_wp2_with fail
  go_loopg [5, 8] xs.length (fun gg _ s8 wr => ∃ k : Nat, k ≤ xs.length ∧ xs.length - k ≤ gg ∧ s8 = .int .i64 k ∧ Aside0 (Below w.heap.size w wr) ∧ Aside0 (idxP p xs 0 = idxP p (xs.drop k) k))
  case atStart => exact ⟨0, by omega, by omega, rfl, ⟨Below.refl _ _⟩, ⟨by simp⟩⟩
  case round =>
    obtain ⟨k, h1, hg, rfl, BW, HX⟩ := hrel
    by_cases hlt : k < xs.length
    · obtain ⟨hd, hmem⟩ := at_drop z53 xs k hlt
      obtain ⟨ad, cs, rfl, _, hK, hcell0⟩ := Kd.C_get (Kd.C_below HR.out BW.out) z53 (k : Int) (by omega) (by omega)
      rw [Int.toNat_natCast] at hK hcell0
      have hcell := Aside0.mk (show ∀ j u, cs[j]? = some u → wr.cell? (ad.add (k * 2 + j)) = some u from hcell0)
      clear hcell0
      have hcall := Aside0.mk (hp.out _ _ cs BW.out hmem hK)
      have HX2 := HX.out
      rw [hd] at HX2
      have HX3 := Aside0.mk HX2
      clear HX HX2 hd hmem
      generalize xs.getD k z53 = y at hcall HX3 hK
      obtain ⟨B1, d1, rfl, e1, g1⟩ := k53_open hK
      have hx0 : wr.cell? (ad.add (k * 2)) = some (.string y.f0) := hcell.out 0 _ rfl
      have hx1 : wr.cell? ⟨(ad.add (k * 2)).block, (ad.add (k * 2)).off + 1, none⟩ = some (.slice B1 y.f1.length d1) := by rw [← add_field _ _ 1 (by omega)]; exact hcell.out 1 _ rfl
      clear hp HR hcell hK
      cases hq : p y with
      | true =>
        have Hfin : Aside0 (idxP p xs 0 = k) := ⟨by rw [HX3.out]; simp [idxP, hq]⟩
        have Hc := hcall.out
        rw [hq] at Hc
        have Hd := Aside0.mk Hc
        clear hq HX3 hcall Hc
        go_wp2_with (go_at_fn g; refine Hd.out.mono ?_; rintro e w' ⟨rfl, hb'⟩)
        go_ret
        exact ⟨by rw [Hfin.out]; rfl, BW.out.trans (hb'.mono BW.out.size)⟩
      | false =>
        have Hfin : Aside0 (idxP p xs 0 = idxP p (xs.drop (k + 1)) ((k + 1 : Nat) : Int)) := ⟨by rw [HX3.out]; simp [idxP, hq]⟩
        have Hc := hcall.out
        rw [hq] at Hc
        have Hd := Aside0.mk Hc
        clear hq HX3 hcall Hc
        go_wp2_with (go_at_fn g; refine Hd.out.mono ?_; rintro e w' ⟨rfl, hb'⟩)
        go_roundg (xs.length - (k + 1))
        case measure => omega
        case rel => exact ⟨k + 1, by omega, by omega, by go_num, ⟨BW.out.trans (hb'.mono BW.out.size)⟩, Hfin⟩
    · have Hfin : Aside0 (idxP p xs 0 = -1) := ⟨by rw [HX.out, List.drop_eq_nil_of_le (by omega)]; rfl⟩
      clear HX
      go_wp2_with fail
      go_ret
      exact ⟨by rw [Hfin.out]; rfl, BW.out⟩

set_option maxHeartbeats 1600000 in
theorem indexFunc_Service (p : S61 → Bool) (g : Nat) (lb : Array Value) (eg : ∀ args w, (callFunc g args).run Tryd.prog w = .ok (.enter g args) w) (A : Option Addr) (c : Nat) (xs : List S61) (w : World) (hr : Kd.C k61 w A xs.length xs) (hl : xs.length ≤ 140737488351232)
    (hp : Aside0 (∀ (W : World) (x : S61) (cs : List Value), Below w.heap.size w W → x ∈ xs → k61.K W x cs → Calls Tryd.prog g (#[.agg cs.toArray] ++ lb) W fun e w' => e = .returned (.bool (p x)) ∧ Below W.heap.size W w')) :
    Calls Tryd.prog 53 #[.slice A xs.length c, .func (.func g) #[] lb] w fun e w' => e = .returned (.int .i64 (idxP p xs 0)) ∧ Below w.heap.size w w' := by
  have HR := Aside0.mk hr
  clear hr
  go_enter Tryd.func53, Tryd.ntmps53
  go_wp2_with fail
  go_loopg [5, 8] xs.length (fun gg _ s8 wr => ∃ k : Nat, k ≤ xs.length ∧ xs.length - k ≤ gg ∧ s8 = .int .i64 k ∧ Aside0 (Below w.heap.size w wr) ∧ Aside0 (idxP p xs 0 = idxP p (xs.drop k) k))
  case atStart => exact ⟨0, by omega, by omega, rfl, ⟨Below.refl _ _⟩, ⟨by simp⟩⟩
  case round =>
    obtain ⟨k, h1, hg, rfl, BW, HX⟩ := hrel
    by_cases hlt : k < xs.length
    · obtain ⟨hd, hmem⟩ := at_drop z61 xs k hlt
      obtain ⟨ad, cs, rfl, _, hK, hcell0⟩ := Kd.C_get (Kd.C_below HR.out BW.out) z61 (k : Int) (by omega) (by omega)
      rw [Int.toNat_natCast] at hK hcell0
      have hcell := Aside0.mk (show ∀ j u, cs[j]? = some u → wr.cell? (ad.add (k * 4 + j)) = some u from hcell0)
      clear hcell0
      have hcall := Aside0.mk (hp.out _ _ cs BW.out hmem hK)
      have HX2 := HX.out
      rw [hd] at HX2
      have HX3 := Aside0.mk HX2
      clear HX HX2 hd hmem
      generalize xs.getD k z61 = y at hcall HX3 hK
      obtain rfl := k61_open hK
      have hx0 : wr.cell? (ad.add (k * 4)) = some (.string y.f0) := hcell.out 0 _ rfl
      have hx1 : wr.cell? ⟨(ad.add (k * 4)).block, (ad.add (k * 4)).off + 1, none⟩ = some (.int .i64 y.f1) := by rw [← add_field _ _ 1 (by omega)]; exact hcell.out 1 _ rfl
      have hx2 : wr.cell? ⟨(ad.add (k * 4)).block, (ad.add (k * 4)).off + 2, none⟩ = some (.int .i64 y.f2) := by rw [← add_field _ _ 2 (by omega)]; exact hcell.out 2 _ rfl
      have hx3 : wr.cell? ⟨(ad.add (k * 4)).block, (ad.add (k * 4)).off + 3, none⟩ = some (.int .i64 y.f3) := by rw [← add_field _ _ 3 (by omega)]; exact hcell.out 3 _ rfl
      clear hp HR hcell hK
      cases hq : p y with
      | true =>
        have Hfin : Aside0 (idxP p xs 0 = k) := ⟨by rw [HX3.out]; simp [idxP, hq]⟩
        have Hc := hcall.out
        rw [hq] at Hc
        have Hd := Aside0.mk Hc
        clear hq HX3 hcall Hc
        go_wp2_with (go_at_fn g; refine Hd.out.mono ?_; rintro e w' ⟨rfl, hb'⟩)
        go_ret
        exact ⟨by rw [Hfin.out]; rfl, BW.out.trans (hb'.mono BW.out.size)⟩
      | false =>
        have Hfin : Aside0 (idxP p xs 0 = idxP p (xs.drop (k + 1)) ((k + 1 : Nat) : Int)) := ⟨by rw [HX3.out]; simp [idxP, hq]⟩
        have Hc := hcall.out
        rw [hq] at Hc
        have Hd := Aside0.mk Hc
        clear hq HX3 hcall Hc
        go_wp2_with (go_at_fn g; refine Hd.out.mono ?_; rintro e w' ⟨rfl, hb'⟩)
        go_roundg (xs.length - (k + 1))
        case measure => omega
        case rel => exact ⟨k + 1, by omega, by omega, by go_num, ⟨BW.out.trans (hb'.mono BW.out.size)⟩, Hfin⟩
    · have Hfin : Aside0 (idxP p xs 0 = -1) := ⟨by rw [HX.out, List.drop_eq_nil_of_le (by omega)]; rfl⟩
      clear HX
      go_wp2_with fail
      go_ret
      exact ⟨by rw [Hfin.out]; rfl, BW.out⟩

set_option maxHeartbeats 1600000 in
theorem indexFunc_Limit (p : S32 → Bool) (g : Nat) (lb : Array Value) (eg : ∀ args w, (callFunc g args).run Tryd.prog w = .ok (.enter g args) w) (A : Option Addr) (c : Nat) (xs : List S32) (w : World) (hr : Kd.C k32 w A xs.length xs) (hl : xs.length ≤ 140737488351232)
    (hp : Aside0 (∀ (W : World) (x : S32) (cs : List Value), Below w.heap.size w W → x ∈ xs → k32.K W x cs → Calls Tryd.prog g (#[.agg cs.toArray] ++ lb) W fun e w' => e = .returned (.bool (p x)) ∧ Below W.heap.size W w')) :
    Calls Tryd.prog 55 #[.slice A xs.length c, .func (.func g) #[] lb] w fun e w' => e = .returned (.int .i64 (idxP p xs 0)) ∧ Below w.heap.size w w' := by
  have HR := Aside0.mk hr
  clear hr
  go_enter Tryd.func55, Tryd.ntmps55
  go_wp2_with fail
  go_loopg [5, 8] xs.length (fun gg _ s8 wr => ∃ k : Nat, k ≤ xs.length ∧ xs.length - k ≤ gg ∧ s8 = .int .i64 k ∧ Aside0 (Below w.heap.size w wr) ∧ Aside0 (idxP p xs 0 = idxP p (xs.drop k) k))
  case atStart => exact ⟨0, by omega, by omega, rfl, ⟨Below.refl _ _⟩, ⟨by simp⟩⟩
  case round =>
    obtain ⟨k, h1, hg, rfl, BW, HX⟩ := hrel
    by_cases hlt : k < xs.length
    · obtain ⟨hd, hmem⟩ := at_drop z32 xs k hlt
      obtain ⟨ad, cs, rfl, _, hK, hcell0⟩ := Kd.C_get (Kd.C_below HR.out BW.out) z32 (k : Int) (by omega) (by omega)
      rw [Int.toNat_natCast] at hK hcell0
      have hcell := Aside0.mk (show ∀ j u, cs[j]? = some u → wr.cell? (ad.add (k * 4 + j)) = some u from hcell0)
      clear hcell0
      have hcall := Aside0.mk (hp.out _ _ cs BW.out hmem hK)
      have HX2 := HX.out
      rw [hd] at HX2
      have HX3 := Aside0.mk HX2
      clear HX HX2 hd hmem
      generalize xs.getD k z32 = y at hcall HX3 hK
      obtain rfl := k32_open hK
      have hx0 : wr.cell? (ad.add (k * 4)) = some (.string y.f0) := hcell.out 0 _ rfl
      have hx1 : wr.cell? ⟨(ad.add (k * 4)).block, (ad.add (k * 4)).off + 1, none⟩ = some (.int .i64 y.f1) := by rw [← add_field _ _ 1 (by omega)]; exact hcell.out 1 _ rfl
      have hx2 : wr.cell? ⟨(ad.add (k * 4)).block, (ad.add (k * 4)).off + 2, none⟩ = some (.int .i64 y.f2) := by rw [← add_field _ _ 2 (by omega)]; exact hcell.out 2 _ rfl
      have hx3 : wr.cell? ⟨(ad.add (k * 4)).block, (ad.add (k * 4)).off + 3, none⟩ = some (.bool y.f3) := by rw [← add_field _ _ 3 (by omega)]; exact hcell.out 3 _ rfl
      clear hp HR hcell hK
      cases hq : p y with
      | true =>
        have Hfin : Aside0 (idxP p xs 0 = k) := ⟨by rw [HX3.out]; simp [idxP, hq]⟩
        have Hc := hcall.out
        rw [hq] at Hc
        have Hd := Aside0.mk Hc
        clear hq HX3 hcall Hc
        go_wp2_with (go_at_fn g; refine Hd.out.mono ?_; rintro e w' ⟨rfl, hb'⟩)
        go_ret
        exact ⟨by rw [Hfin.out]; rfl, BW.out.trans (hb'.mono BW.out.size)⟩
      | false =>
        have Hfin : Aside0 (idxP p xs 0 = idxP p (xs.drop (k + 1)) ((k + 1 : Nat) : Int)) := ⟨by rw [HX3.out]; simp [idxP, hq]⟩
        have Hc := hcall.out
        rw [hq] at Hc
        have Hd := Aside0.mk Hc
        clear hq HX3 hcall Hc
        go_wp2_with (go_at_fn g; refine Hd.out.mono ?_; rintro e w' ⟨rfl, hb'⟩)
        go_roundg (xs.length - (k + 1))
        case measure => omega
        case rel => exact ⟨k + 1, by omega, by omega, by go_num, ⟨BW.out.trans (hb'.mono BW.out.size)⟩, Hfin⟩
    · have Hfin : Aside0 (idxP p xs 0 = -1) := ⟨by rw [HX.out, List.drop_eq_nil_of_le (by omega)]; rfl⟩
      clear HX
      go_wp2_with fail
      go_ret
      exact ⟨by rw [Hfin.out]; rfl, BW.out⟩

set_option maxHeartbeats 1600000 in
theorem indexFunc_Route (p : S68 → Bool) (g : Nat) (lb : Array Value) (eg : ∀ args w, (callFunc g args).run Tryd.prog w = .ok (.enter g args) w) (A : Option Addr) (c : Nat) (xs : List S68) (w : World) (hr : Kd.C k68 w A xs.length xs) (hl : xs.length ≤ 140737488351232)
    (hp : Aside0 (∀ (W : World) (x : S68) (cs : List Value), Below w.heap.size w W → x ∈ xs → k68.K W x cs → Calls Tryd.prog g (#[.agg cs.toArray] ++ lb) W fun e w' => e = .returned (.bool (p x)) ∧ Below W.heap.size W w')) :
    Calls Tryd.prog 51 #[.slice A xs.length c, .func (.func g) #[] lb] w fun e w' => e = .returned (.int .i64 (idxP p xs 0)) ∧ Below w.heap.size w w' := by
  have HR := Aside0.mk hr
  clear hr
  go_enter Tryd.func51, Tryd.ntmps51
  go_wp2_with fail
  go_loopg [5, 8] xs.length (fun gg _ s8 wr => ∃ k : Nat, k ≤ xs.length ∧ xs.length - k ≤ gg ∧ s8 = .int .i64 k ∧ Aside0 (Below w.heap.size w wr) ∧ Aside0 (idxP p xs 0 = idxP p (xs.drop k) k))
  case atStart => exact ⟨0, by omega, by omega, rfl, ⟨Below.refl _ _⟩, ⟨by simp⟩⟩
  case round =>
    obtain ⟨k, h1, hg, rfl, BW, HX⟩ := hrel
    by_cases hlt : k < xs.length
    · obtain ⟨hd, hmem⟩ := at_drop z68 xs k hlt
      obtain ⟨ad, cs, rfl, _, hK, hcell0⟩ := Kd.C_get (Kd.C_below HR.out BW.out) z68 (k : Int) (by omega) (by omega)
      rw [Int.toNat_natCast] at hK hcell0
      have hcell := Aside0.mk (show ∀ j u, cs[j]? = some u → wr.cell? (ad.add (k * 6 + j)) = some u from hcell0)
      clear hcell0
      have hcall := Aside0.mk (hp.out _ _ cs BW.out hmem hK)
      have HX2 := HX.out
      rw [hd] at HX2
      have HX3 := Aside0.mk HX2
      clear HX HX2 hd hmem
      generalize xs.getD k z68 = y at hcall HX3 hK
      obtain rfl := k68_open hK
      have hx0 : wr.cell? (ad.add (k * 6)) = some (.int .u64 y.f0.f0.f0) := hcell.out 0 _ rfl
      have hx1 : wr.cell? ⟨(ad.add (k * 6)).block, (ad.add (k * 6)).off + 1, none⟩ = some (.int .u64 y.f0.f0.f1) := by rw [← add_field _ _ 1 (by omega)]; exact hcell.out 1 _ rfl
      have hx2 : wr.cell? ⟨(ad.add (k * 6)).block, (ad.add (k * 6)).off + 2, none⟩ = some (.int .u64 y.f0.f1.f0) := by rw [← add_field _ _ 2 (by omega)]; exact hcell.out 2 _ rfl
      have hx3 : wr.cell? ⟨(ad.add (k * 6)).block, (ad.add (k * 6)).off + 3, none⟩ = some (.int .u64 y.f0.f1.f1) := by rw [← add_field _ _ 3 (by omega)]; exact hcell.out 3 _ rfl
      have hx4 : wr.cell? ⟨(ad.add (k * 6)).block, (ad.add (k * 6)).off + 4, none⟩ = some (.int .i64 y.f1) := by rw [← add_field _ _ 4 (by omega)]; exact hcell.out 4 _ rfl
      have hx5 : wr.cell? ⟨(ad.add (k * 6)).block, (ad.add (k * 6)).off + 5, none⟩ = some (.int .i64 y.f2) := by rw [← add_field _ _ 5 (by omega)]; exact hcell.out 5 _ rfl
      clear hp HR hcell hK
      cases hq : p y with
      | true =>
        have Hfin : Aside0 (idxP p xs 0 = k) := ⟨by rw [HX3.out]; simp [idxP, hq]⟩
        have Hc := hcall.out
        rw [hq] at Hc
        have Hd := Aside0.mk Hc
        clear hq HX3 hcall Hc
        go_wp2_with (go_at_fn g; refine Hd.out.mono ?_; rintro e w' ⟨rfl, hb'⟩)
        go_ret
        exact ⟨by rw [Hfin.out]; rfl, BW.out.trans (hb'.mono BW.out.size)⟩
      | false =>
        have Hfin : Aside0 (idxP p xs 0 = idxP p (xs.drop (k + 1)) ((k + 1 : Nat) : Int)) := ⟨by rw [HX3.out]; simp [idxP, hq]⟩
        have Hc := hcall.out
        rw [hq] at Hc
        have Hd := Aside0.mk Hc
        clear hq HX3 hcall Hc
        go_wp2_with (go_at_fn g; refine Hd.out.mono ?_; rintro e w' ⟨rfl, hb'⟩)
        go_roundg (xs.length - (k + 1))
        case measure => omega
        case rel => exact ⟨k + 1, by omega, by omega, by go_num, ⟨BW.out.trans (hb'.mono BW.out.size)⟩, Hfin⟩
    · have Hfin : Aside0 (idxP p xs 0 = -1) := ⟨by rw [HX.out, List.drop_eq_nil_of_le (by omega)]; rfl⟩
      clear HX
      go_wp2_with fail
      go_ret
      exact ⟨by rw [Hfin.out]; rfl, BW.out⟩

set_option maxHeartbeats 1600000 in
theorem containsFunc_Route (p : S68 → Bool) (g : Nat) (lb : Array Value) (eg : ∀ args w, (callFunc g args).run Tryd.prog w = .ok (.enter g args) w) (A : Option Addr) (c : Nat) (xs : List S68) (w : World) (hr : Kd.C k68 w A xs.length xs) (hl : xs.length ≤ 140737488351232)
    (hp : Aside0 (∀ (W : World) (x : S68) (cs : List Value), Below w.heap.size w W → x ∈ xs → k68.K W x cs → Calls Tryd.prog g (#[.agg cs.toArray] ++ lb) W fun e w' => e = .returned (.bool (p x)) ∧ Below W.heap.size W w')) :
    Calls Tryd.prog 29 #[.slice A xs.length c, .func (.func g) #[] lb] w fun e w' => e = .returned (.bool (xs.any p)) ∧ Below w.heap.size w w' := by
  have HX := Aside0.mk (idxP_neg p xs 0 (Int.le_refl _))
  have Hc := Aside0.mk (indexFunc_Route p g lb eg A c xs w hr hl hp)
  clear hr hp eg
  generalize idxP p xs 0 = i at HX Hc
  go_enter Tryd.func29, Tryd.ntmps29
  go_wp2_with fail
  refine Hc.out.mono ?_
  rintro e w' ⟨rfl, hb⟩
  rcases HX.out with ⟨a, b⟩ | ⟨a, b⟩
  · subst a
    have B := Aside0.mk b
    clear b HX
    go_wp2_with fail
    go_ret
    exact ⟨by rw [B.out]; rfl, hb⟩
  · have B := Aside0.mk b
    clear b HX
    go_wp2_with fail
    go_ret
    exact ⟨by rw [B.out]; simp, hb⟩

set_option maxHeartbeats 1600000 in
theorem indexFunc_Nat (p : S77 → Bool) (g : Nat) (lb : Array Value) (eg : ∀ args w, (callFunc g args).run Tryd.prog w = .ok (.enter g args) w) (A : Option Addr) (c : Nat) (xs : List S77) (w : World) (hr : Kd.C k77 w A xs.length xs) (hl : xs.length ≤ 140737488351232)
    (hp : Aside0 (∀ (W : World) (x : S77) (cs : List Value), Below w.heap.size w W → x ∈ xs → k77.K W x cs → Calls Tryd.prog g (#[.agg cs.toArray] ++ lb) W fun e w' => e = .returned (.bool (p x)) ∧ Below W.heap.size W w')) :
    Calls Tryd.prog 52 #[.slice A xs.length c, .func (.func g) #[] lb] w fun e w' => e = .returned (.int .i64 (idxP p xs 0)) ∧ Below w.heap.size w w' := by
  have HR := Aside0.mk hr
  clear hr
  go_enter Tryd.func52, Tryd.ntmps52
  go_wp2_with fail
  go_loopg [5, 8] xs.length (fun gg _ s8 wr => ∃ k : Nat, k ≤ xs.length ∧ xs.length - k ≤ gg ∧ s8 = .int .i64 k ∧ Aside0 (Below w.heap.size w wr) ∧ Aside0 (idxP p xs 0 = idxP p (xs.drop k) k))
  case atStart => exact ⟨0, by omega, by omega, rfl, ⟨Below.refl _ _⟩, ⟨by simp⟩⟩
  case round =>
    obtain ⟨k, h1, hg, rfl, BW, HX⟩ := hrel
    by_cases hlt : k < xs.length
    · obtain ⟨hd, hmem⟩ := at_drop z77 xs k hlt
      obtain ⟨ad, cs, rfl, _, hK, hcell0⟩ := Kd.C_get (Kd.C_below HR.out BW.out) z77 (k : Int) (by omega) (by omega)
      rw [Int.toNat_natCast] at hK hcell0
      have hcell := Aside0.mk (show ∀ j u, cs[j]? = some u → wr.cell? (ad.add (k * 10 + j)) = some u from hcell0)
      clear hcell0
      have hcall := Aside0.mk (hp.out _ _ cs BW.out hmem hK)
      have HX2 := HX.out
      rw [hd] at HX2
      have HX3 := Aside0.mk HX2
      clear HX HX2 hd hmem
      generalize xs.getD k z77 = y at hcall HX3 hK
      obtain rfl := k77_open hK
      have hx0 : wr.cell? (ad.add (k * 10)) = some (.int .i64 y.f0) := hcell.out 0 _ rfl
      have hx1 : wr.cell? ⟨(ad.add (k * 10)).block, (ad.add (k * 10)).off + 1, none⟩ = some (.string y.f1) := by rw [← add_field _ _ 1 (by omega)]; exact hcell.out 1 _ rfl
      have hx2 : wr.cell? ⟨(ad.add (k * 10)).block, (ad.add (k * 10)).off + 2, none⟩ = some (.string y.f2) := by rw [← add_field _ _ 2 (by omega)]; exact hcell.out 2 _ rfl
      have hx3 : wr.cell? ⟨(ad.add (k * 10)).block, (ad.add (k * 10)).off + 3, none⟩ = some (.string y.f3) := by rw [← add_field _ _ 3 (by omega)]; exact hcell.out 3 _ rfl
      have hx4 : wr.cell? ⟨(ad.add (k * 10)).block, (ad.add (k * 10)).off + 4, none⟩ = some (.int .u64 y.f4.f0) := by rw [← add_field _ _ 4 (by omega)]; exact hcell.out 4 _ rfl
      have hx5 : wr.cell? ⟨(ad.add (k * 10)).block, (ad.add (k * 10)).off + 5, none⟩ = some (.int .u64 y.f4.f1) := by rw [← add_field _ _ 5 (by omega)]; exact hcell.out 5 _ rfl
      have hx6 : wr.cell? ⟨(ad.add (k * 10)).block, (ad.add (k * 10)).off + 6, none⟩ = some (.int .u64 y.f5.f0) := by rw [← add_field _ _ 6 (by omega)]; exact hcell.out 6 _ rfl
      have hx7 : wr.cell? ⟨(ad.add (k * 10)).block, (ad.add (k * 10)).off + 7, none⟩ = some (.int .u64 y.f5.f1) := by rw [← add_field _ _ 7 (by omega)]; exact hcell.out 7 _ rfl
      have hx8 : wr.cell? ⟨(ad.add (k * 10)).block, (ad.add (k * 10)).off + 8, none⟩ = some (.int .i64 y.f6) := by rw [← add_field _ _ 8 (by omega)]; exact hcell.out 8 _ rfl
      have hx9 : wr.cell? ⟨(ad.add (k * 10)).block, (ad.add (k * 10)).off + 9, none⟩ = some (.int .i64 y.f7) := by rw [← add_field _ _ 9 (by omega)]; exact hcell.out 9 _ rfl
      clear hp HR hcell hK
      cases hq : p y with
      | true =>
        have Hfin : Aside0 (idxP p xs 0 = k) := ⟨by rw [HX3.out]; simp [idxP, hq]⟩
        have Hc := hcall.out
        rw [hq] at Hc
        have Hd := Aside0.mk Hc
        clear hq HX3 hcall Hc
        go_wp2_with (go_at_fn g; refine Hd.out.mono ?_; rintro e w' ⟨rfl, hb'⟩)
        go_ret
        exact ⟨by rw [Hfin.out]; rfl, BW.out.trans (hb'.mono BW.out.size)⟩
      | false =>
        have Hfin : Aside0 (idxP p xs 0 = idxP p (xs.drop (k + 1)) ((k + 1 : Nat) : Int)) := ⟨by rw [HX3.out]; simp [idxP, hq]⟩
        have Hc := hcall.out
        rw [hq] at Hc
        have Hd := Aside0.mk Hc
        clear hq HX3 hcall Hc
        go_wp2_with (go_at_fn g; refine Hd.out.mono ?_; rintro e w' ⟨rfl, hb'⟩)
        go_roundg (xs.length - (k + 1))
        case measure => omega
        case rel => exact ⟨k + 1, by omega, by omega, by go_num, ⟨BW.out.trans (hb'.mono BW.out.size)⟩, Hfin⟩
    · have Hfin : Aside0 (idxP p xs 0 = -1) := ⟨by rw [HX.out, List.drop_eq_nil_of_le (by omega)]; rfl⟩
      clear HX
      go_wp2_with fail
      go_ret
      exact ⟨by rw [Hfin.out]; rfl, BW.out⟩

set_option maxHeartbeats 1600000 in
theorem containsFunc_Nat (p : S77 → Bool) (g : Nat) (lb : Array Value) (eg : ∀ args w, (callFunc g args).run Tryd.prog w = .ok (.enter g args) w) (A : Option Addr) (c : Nat) (xs : List S77) (w : World) (hr : Kd.C k77 w A xs.length xs) (hl : xs.length ≤ 140737488351232)
    (hp : Aside0 (∀ (W : World) (x : S77) (cs : List Value), Below w.heap.size w W → x ∈ xs → k77.K W x cs → Calls Tryd.prog g (#[.agg cs.toArray] ++ lb) W fun e w' => e = .returned (.bool (p x)) ∧ Below W.heap.size W w')) :
    Calls Tryd.prog 37 #[.slice A xs.length c, .func (.func g) #[] lb] w fun e w' => e = .returned (.bool (xs.any p)) ∧ Below w.heap.size w w' := by
  have HX := Aside0.mk (idxP_neg p xs 0 (Int.le_refl _))
  have Hc := Aside0.mk (indexFunc_Nat p g lb eg A c xs w hr hl hp)
  clear hr hp eg
  generalize idxP p xs 0 = i at HX Hc
  go_enter Tryd.func37, Tryd.ntmps37
  go_wp2_with fail
  refine Hc.out.mono ?_
  rintro e w' ⟨rfl, hb⟩
  rcases HX.out with ⟨a, b⟩ | ⟨a, b⟩
  · subst a
    have B := Aside0.mk b
    clear b HX
    go_wp2_with fail
    go_ret
    exact ⟨by rw [B.out]; rfl, hb⟩
  · have B := Aside0.mk b
    clear b HX
    go_wp2_with fail
    go_ret
    exact ⟨by rw [B.out]; simp, hb⟩

end Go.Proofs.YteocdfahhndfoaaDoor.Print
