/-
The walks of lang.fits, lang.when and lang.checkLimits.
Conditions: the slice is no longer than the reach.
-/
import Derived.Test.YteocdfahhndfoaaDoorNamed
namespace Go.Proofs.YteocdfahhndfoaaDoor.Print
open Go.RowKit Go.Proofs.YteocdfahhndfoaaDoorW.PrintWords Go.Proofs.YteocdfahhndfoaaDoor.Plain
theorem fits_calls (n lo hi : Int) (w : World) : Calls Tryd.prog 16 #[.int .i64 n, .int .i64 lo, .int .i64 hi] w fun e w' => e = .returned (.bool (decide (lo ≤ n) && decide (n ≤ hi))) ∧ Below w.heap.size w w' := by
  by_cases h : lo ≤ n
  · go_enter Tryd.func16, Tryd.ntmps16
    go_wp2_with fail
    go_ret
    exact ⟨by rw [decide_eq_true h]; rfl, Below.refl _ _⟩
  · go_enter Tryd.func16, Tryd.ntmps16
    go_wp2_with fail
    go_ret
    exact ⟨by rw [decide_eq_false (show ¬ lo ≤ n by omega)]; rfl, Below.refl _ _⟩
theorem when_calls (b : Bool) (e0 : Int) (w : World) : Calls Tryd.prog 13 #[.bool b, .int .i64 e0] w fun e w' => e = .returned (.int .i64 (if b then e0 else 0)) ∧ Below w.heap.size w w' := by
  cases b
  · go_enter Tryd.func13, Tryd.ntmps13
    go_wp2_with fail
    go_ret
    exact ⟨rfl, Below.refl _ _⟩
  · go_enter Tryd.func13, Tryd.ntmps13
    go_wp2_with fail
    go_ret
    exact ⟨rfl, Below.refl _ _⟩

/-- The first error of a list of elements, each with a name and with what else may be wrong. -/
def checkL {α : Type} (nm : α → List UInt8) (more : α → Int) : List (List UInt8) → List α → Int
  | _, [] => 0
  | p, x :: l => if nameErr p (nm x) ≠ 0 then nameErr p (nm x) else if more x ≠ 0 then more x else checkL nm more (p ++ [nm x]) l
def fitsB (n lo hi : Int) : Bool := decide (lo ≤ n) && decide (n ≤ hi)
def moreLimit (x : S32) : Int := if (!fitsB x.f1 0 1048576 || !fitsB x.f2 1 1048576) = true then 61 else 0

theorem map_take_succ {α β : Type} (f : α → β) (z : α) (xs : List α) (k : Nat) (h : k < xs.length) : (xs.take (k + 1)).map f = (xs.take k).map f ++ [f (xs.getD k z)] := by
  rw [List.take_add_one, List.map_append, List.getElem?_eq_getElem h, List.getD_eq_getElem?_getD, List.getElem?_eq_getElem h]
  rfl

set_option maxHeartbeats 1600000 in
theorem checkLimits_calls (v0 v1 v2 v4 v5 v6 v7 : Value) (A : Option Addr) (c : Nat) (xs : List S32) (w : World) (hr : Kd.C k32 w A xs.length xs) (hl : xs.length ≤ 140737488351232) (hc : xs.length ≤ c) :
    Calls Tryd.prog 9 #[.agg #[v0, v1, v2, .slice A xs.length c, v4, v5, v6, v7]] w fun e w' => e = .returned (.int .i64 (checkL (fun y : S32 => y.f0.toList) moreLimit [] xs)) ∧ Below w.heap.size w w' := by
  have HG := Aside0.mk hr
  clear hr
  go_enter Tryd.func9, Tryd.ntmps9
  go_wp2_with fail
  have HB0 : Below w.heap.size w (w.alloc (Obj.cells #[v0, v1, v2, .slice A xs.length c, v4, v5, v6, v7] 30)) := (Below.refl _ _).alloc (Nat.le_refl _) _
  have hc0 : (w.alloc (Obj.cells #[v0, v1, v2, .slice A xs.length c, v4, v5, v6, v7] 30)).cell? ⟨w.heap.size, 3, none⟩ = some (.slice A xs.length c) := by go_simp
  have hz0 : w.heap.size < (w.alloc (Obj.cells #[v0, v1, v2, .slice A xs.length c, v4, v5, v6, v7] 30)).heap.size := by simp
  generalize (w.alloc (Obj.cells #[v0, v1, v2, .slice A xs.length c, v4, v5, v6, v7] 30)) = wa at *
  go_loopg [3, 4, 5, 9] xs.length (fun gg _ _ _ s9 wr => ∃ k : Nat, k ≤ xs.length ∧ xs.length - k ≤ gg ∧ s9 = .int .i64 k ∧ Aside0 (Below w.heap.size w wr) ∧ wr.cell? ⟨w.heap.size, 3, none⟩ = some (.slice A xs.length c) ∧ w.heap.size < wr.heap.size ∧ Aside0 (checkL (fun y : S32 => y.f0.toList) moreLimit [] xs = checkL (fun y : S32 => y.f0.toList) moreLimit ((xs.take k).map (fun y : S32 => y.f0.toList)) (xs.drop k)))
  case atStart => exact ⟨0, by omega, by omega, rfl, ⟨HB0⟩, hc0, hz0, ⟨by simp⟩⟩
  case round =>
    clear hc0 hz0 HB0
    obtain ⟨k, h1, hg, rfl, BW, hcr, hzr, HX⟩ := hrel
    by_cases hlt : k < xs.length
    · obtain ⟨hd, hmem⟩ := at_drop z32 xs k hlt
      have hmt := map_take_succ (fun y : S32 => y.f0.toList) z32 xs k hlt
      obtain ⟨ad, cs, rfl, _, hK, hcell0⟩ := Kd.C_get (Kd.C_below HG.out BW.out) z32 (k : Int) (by omega) (by omega)
      rw [Int.toNat_natCast] at hK hcell0
      have hcell := Aside0.mk (show ∀ j u, cs[j]? = some u → wr.cell? (ad.add (k * 4 + j)) = some u from hcell0)
      clear hcell0
      have HX2 := HX.out
      rw [hd] at HX2
      have HN := Aside0.mk (fun W hb => names_Limit (some ad) c k xs W (Kd.C_below HG.out hb) hl hlt hc)
      generalize xs.getD k z32 = y at HX2 hK HN hmt
      have HX3 : Aside0 (checkL (fun y : S32 => y.f0.toList) moreLimit [] xs = if nameErr ((xs.take k).map (fun y : S32 => y.f0.toList)) y.f0.toList ≠ 0 then nameErr ((xs.take k).map (fun y : S32 => y.f0.toList)) y.f0.toList else if moreLimit y ≠ 0 then moreLimit y else checkL (fun y : S32 => y.f0.toList) moreLimit ((xs.take (k + 1)).map (fun y : S32 => y.f0.toList)) (xs.drop (k + 1))) := ⟨by rw [HX2, checkL, hmt]⟩
      clear HX HX2 hd hmem hmt
      generalize nameErr ((xs.take k).map (fun y : S32 => y.f0.toList)) y.f0.toList = ne at HX3 HN
      obtain rfl := k32_open hK
      have hx0 : wr.cell? (ad.add (k * 4)) = some (.string y.f0) := hcell.out 0 _ rfl
      have hx1 : wr.cell? ⟨(ad.add (k * 4)).block, (ad.add (k * 4)).off + 1, none⟩ = some (.int .i64 y.f1) := by rw [← add_field _ _ 1 (by omega)]; exact hcell.out 1 _ rfl
      have hx2 : wr.cell? ⟨(ad.add (k * 4)).block, (ad.add (k * 4)).off + 2, none⟩ = some (.int .i64 y.f2) := by rw [← add_field _ _ 2 (by omega)]; exact hcell.out 2 _ rfl
      have hx3 : wr.cell? ⟨(ad.add (k * 4)).block, (ad.add (k * 4)).off + 3, none⟩ = some (.bool y.f3) := by rw [← add_field _ _ 3 (by omega)]; exact hcell.out 3 _ rfl
      clear hcell hK
      go_wp2_with fail
      have HB1 : Below w.heap.size w (wr.alloc (Obj.cells #[.string y.f0, .int .i64 y.f1, .int .i64 y.f2, .bool y.f3] 32)) := BW.out.alloc BW.out.size _
      refine (HN.out _ HB1).mono ?_
      rintro e w1 ⟨rfl, hb⟩
      have HB2 : Below w.heap.size w w1 := bthen HB1 hb
      have hcr1 : w1.cell? ⟨w.heap.size, 3, none⟩ = some (.slice (some ad) xs.length c) := pw_cell_below hb (by go_simp)
      have hy1 : w1.cell? ⟨wr.heap.size, 1, none⟩ = some (.int .i64 y.f1) := pw_cell_below hb (by go_simp)
      have hy2 : w1.cell? ⟨wr.heap.size, 2, none⟩ = some (.int .i64 y.f2) := pw_cell_below hb (by go_simp)
      have hz1 : w.heap.size < w1.heap.size := by have := hb.size; simp at this; omega
      clear hb HB1 hcr hx0 hx1 hx2 hx3 HN
      by_cases hne : ne = 0
      · have HX4 : Aside0 (checkL (fun y : S32 => y.f0.toList) moreLimit [] xs = if moreLimit y ≠ 0 then moreLimit y else checkL (fun y : S32 => y.f0.toList) moreLimit ((xs.take (k + 1)).map (fun y : S32 => y.f0.toList)) (xs.drop (k + 1))) := ⟨by rw [HX3.out, if_neg (by simpa using hne)]⟩
        subst hne
        clear HX3
        go_wp2_with fail
        refine (fits_calls _ _ _ _).mono ?_
        rintro e w2 ⟨rfl, hb⟩
        have HB3 : Below w.heap.size w w2 := bthen HB2 hb
        have hcr2 : w2.cell? ⟨w.heap.size, 3, none⟩ = some (.slice (some ad) xs.length c) := pw_cell_below hb hcr1
        have hy22 : w2.cell? ⟨wr.heap.size, 2, none⟩ = some (.int .i64 y.f2) := pw_cell_below hb hy2
        have hz2 : w.heap.size < w2.heap.size := Nat.lt_of_lt_of_le hz1 hb.size
        clear hb hcr1 hy1 hy2 hz1 HB2
        have HM : moreLimit y = if (!fitsB y.f1 0 1048576 || !fitsB y.f2 1 1048576) = true then 61 else 0 := rfl
        rw [show (decide (0 ≤ y.f1) && decide (y.f1 ≤ 1048576)) = fitsB y.f1 0 1048576 from rfl]
        cases hf1 : fitsB y.f1 0 1048576 with
        | false =>
          have Hfin : Aside0 (checkL (fun y : S32 => y.f0.toList) moreLimit [] xs = 61) := ⟨by rw [HX4.out, HM, hf1]; rfl⟩
          clear HX4 HM hf1
          go_wp2_with fail
          go_ret
          exact ⟨by rw [Hfin.out]; rfl, HB3⟩
        | true =>
          go_wp2_with fail
          refine (fits_calls _ _ _ _).mono ?_
          rintro e w3 ⟨rfl, hb⟩
          have HB4 : Below w.heap.size w w3 := bthen HB3 hb
          have hcr3 : w3.cell? ⟨w.heap.size, 3, none⟩ = some (.slice (some ad) xs.length c) := pw_cell_below hb hcr2
          have hz3 : w.heap.size < w3.heap.size := Nat.lt_of_lt_of_le hz2 hb.size
          clear hb hcr2 hy22 hz2 HB3
          rw [show (decide (1 ≤ y.f2) && decide (y.f2 ≤ 1048576)) = fitsB y.f2 1 1048576 from rfl]
          cases hf2 : fitsB y.f2 1 1048576 with
          | false =>
            have Hfin : Aside0 (checkL (fun y : S32 => y.f0.toList) moreLimit [] xs = 61) := ⟨by rw [HX4.out, HM, hf1, hf2]; rfl⟩
            clear HX4 HM hf1 hf2
            go_wp2_with fail
            go_ret
            exact ⟨by rw [Hfin.out]; rfl, HB4⟩
          | true =>
            have Hn : Aside0 (checkL (fun y : S32 => y.f0.toList) moreLimit [] xs = checkL (fun y : S32 => y.f0.toList) moreLimit ((xs.take (k + 1)).map (fun y : S32 => y.f0.toList)) (xs.drop (k + 1))) := ⟨by rw [HX4.out, HM, hf1, hf2]; rfl⟩
            clear HX4 HM hf1 hf2
            go_wp2_with fail
            go_roundg (xs.length - (k + 1))
            case measure => omega
            case rel => exact ⟨k + 1, by omega, by omega, by go_num, ⟨HB4⟩, hcr3, hz3, Hn⟩
      · have Hfin : Aside0 (checkL (fun y : S32 => y.f0.toList) moreLimit [] xs = ne) := ⟨by rw [HX3.out, if_pos hne]⟩
        clear HX3
        have hne' : (ne != 0) = true := bne_iff_ne.mpr hne
        go_wp2_with fail
        go_ret
        exact ⟨by rw [Hfin.out]; rfl, HB2⟩
    · have Hfin : Aside0 (checkL (fun y : S32 => y.f0.toList) moreLimit [] xs = 0) := ⟨by rw [HX.out, List.drop_eq_nil_of_le (by omega)]; rfl⟩
      clear HX
      go_wp2_with fail
      go_ret
      exact ⟨by rw [Hfin.out]; rfl, BW.out⟩
end Go.Proofs.YteocdfahhndfoaaDoor.Print
