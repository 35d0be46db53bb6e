/-
The contracts of lang.named and lang.names at each kind of the configuration's elements. Printed by nmgen.py for this work.
Conditions: the slices are no longer than the reach.
-/
import Derived.Test.YteocdfahhndfoaaDoorIdx
import Derived.Test.YteocdfahhndfoaaDoorLangName
import Derived.Deep.RegionHeld3
import Derived.Lib.Hide
namespace Go.Proofs.YteocdfahhndfoaaDoor.Print
open Go.RowKit Go.Proofs.YteocdfahhndfoaaDoorW.PrintWords Go.Proofs.YteocdfahhndfoaaDoor.Plain

theorem bthen {B : Nat} {W w1 w2 : World} (h : Below B W w1) (hb : Below w1.heap.size w1 w2) (hB : B ≤ W.heap.size := by exact Nat.le_refl _) : Below B W w2 := h.trans (hb.mono (Nat.le_trans hB h.size))
/-- What is wrong with a name: 62: it may not be; 63: it is there; 0: nothing. -/
def nameErr (l : List (List UInt8)) (s : List UInt8) : Int := if nameB s = false then 62 else if l.any (fun x => x == s) = true then 63 else 0

theorem zoneName_calls (x : S47) (cs : List Value) (w : World) (hK : k47.K w x cs) : Calls Tryd.prog 15 #[.agg cs.toArray] w fun e w' => e = .returned (.string x.f0) ∧ Below w.heap.size w w' := by
  obtain ⟨B3, d3, rfl, _⟩ := k47_open hK
  clear hK
  go_enter Tryd.func15, Tryd.ntmps15
  go_wp2_with fail
  go_ret
  exact ⟨rfl, (Below.refl _ _).alloc (Nat.le_refl _) _⟩
set_option maxHeartbeats 1600000 in
theorem named1_Zone (s : ByteArray) (x : S47) (cs : List Value) (b1 b2 : Nat) (w : World) (hK : k47.K w x cs) (h1 : w.cell? ⟨b1, 0, none⟩ = some (.func (.func 15) #[] #[])) (h2 : w.cell? ⟨b2, 0, none⟩ = some (.string s)) :
    Calls Tryd.prog 59 (#[.agg cs.toArray] ++ #[.pointer (some ⟨b1, 0, none⟩), .pointer (some ⟨b2, 0, none⟩)]) w fun e w' => e = .returned (.bool (x.f0.toList == s.toList)) ∧ Below w.heap.size w w' := by
  have Hc0 : ∀ W : World, Below w.heap.size w W → Calls Tryd.prog 15 #[.agg cs.toArray] W fun e w' => e = .returned (.string x.f0) ∧ Below W.heap.size W w' := fun W hW => zoneName_calls x cs W (k47.K_below hW hK)
  obtain ⟨B3, d3, rfl, _⟩ := k47_open hK
  have Hc := Aside0.mk Hc0
  clear Hc0 hK
  go_enter Tryd.func59, Tryd.ntmps59
  go_wp2_with fail
  have HB : Below w.heap.size w (w.alloc (Obj.cells #[Value.string x.f0, Value.int IntKind.u64 x.f1.f0, Value.int IntKind.u64 x.f1.f1, Value.slice B3 x.f2.length d3] 47)) := (Below.refl _ _).alloc (Nat.le_refl _) _
  have k1 : (w.alloc (Obj.cells #[Value.string x.f0, Value.int IntKind.u64 x.f1.f0, Value.int IntKind.u64 x.f1.f1, Value.slice B3 x.f2.length d3] 47)).cell? ⟨b1, 0, none⟩ = some (.func (.func 15) #[] #[]) := pw_cell_below HB h1
  have k2 : (w.alloc (Obj.cells #[Value.string x.f0, Value.int IntKind.u64 x.f1.f0, Value.int IntKind.u64 x.f1.f1, Value.slice B3 x.f2.length d3] 47)).cell? ⟨b2, 0, none⟩ = some (.string s) := pw_cell_below HB h2
  have c0 : (w.alloc (Obj.cells #[Value.string x.f0, Value.int IntKind.u64 x.f1.f0, Value.int IntKind.u64 x.f1.f1, Value.slice B3 x.f2.length d3] 47)).cell? ⟨w.heap.size, 0, none⟩ = some (.string x.f0) := by go_simp
  have c1 : (w.alloc (Obj.cells #[Value.string x.f0, Value.int IntKind.u64 x.f1.f0, Value.int IntKind.u64 x.f1.f1, Value.slice B3 x.f2.length d3] 47)).cell? ⟨w.heap.size, 1, none⟩ = some (.int .u64 x.f1.f0) := by go_simp
  have c2 : (w.alloc (Obj.cells #[Value.string x.f0, Value.int IntKind.u64 x.f1.f0, Value.int IntKind.u64 x.f1.f1, Value.slice B3 x.f2.length d3] 47)).cell? ⟨w.heap.size, 2, none⟩ = some (.int .u64 x.f1.f1) := by go_simp
  have c3 : (w.alloc (Obj.cells #[Value.string x.f0, Value.int IntKind.u64 x.f1.f0, Value.int IntKind.u64 x.f1.f1, Value.slice B3 x.f2.length d3] 47)).cell? ⟨w.heap.size, 3, none⟩ = some (.slice B3 x.f2.length d3) := by go_simp
  generalize w.alloc (Obj.cells #[Value.string x.f0, Value.int IntKind.u64 x.f1.f0, Value.int IntKind.u64 x.f1.f1, Value.slice B3 x.f2.length d3] 47) = w1 at *
  clear h1 h2
  go_region_held3 (fun w' => Below w.heap.size w w' ∧ w'.cell? ⟨b1, 0, none⟩ = some (.func (.func 15) #[] #[]) ∧ w'.cell? ⟨b2, 0, none⟩ = some (.string s) ∧ w'.cell? ⟨w.heap.size, 0, none⟩ = some (.string x.f0) ∧ w'.cell? ⟨w.heap.size, 1, none⟩ = some (.int .u64 x.f1.f0) ∧ w'.cell? ⟨w.heap.size, 2, none⟩ = some (.int .u64 x.f1.f1) ∧ w'.cell? ⟨w.heap.size, 3, none⟩ = some (.slice B3 x.f2.length d3))
    (first | ((repeat' apply And.intro) <;> first | (refine Below.drew ?_; assumption) | go_keep) | (go_split_ands; refine ⟨bthen (by assumption) (by assumption), ?_⟩; (repeat' apply And.intro) <;> (refine pw_cell_below (by assumption) ?_; assumption)))
    (first | (go_at_call 15; refine (Hc.out _ (by first | assumption | exact And.left (by assumption))).mono ?_; rintro e w' ⟨rfl, hb⟩))
  go_wp2_with fail
  go_ret
  exact ⟨rfl, And.left (by assumption)⟩
set_option maxHeartbeats 1600000 in
theorem named_Zone (s : ByteArray) (A : Option Addr) (c : Nat) (xs : List S47) (w : World) (hr : Kd.C k47 w A xs.length xs) (hl : xs.length ≤ 140737488351232) :
    Calls Tryd.prog 42 #[.slice A xs.length c, .func (.func 15) #[] #[], .string s] w fun e w' => e = .returned (.int .i64 (idxP (fun x : S47 => x.f0.toList == s.toList) xs 0)) ∧ Below w.heap.size w w' := by
  have HR := Aside0.mk hr
  have EG := Aside0.mk (show ∀ args w, (callFunc 59 args).run Tryd.prog w = .ok (.enter 59 args) w from enters_of Tryd.func59 (by kernel_rfl) rfl)
  clear hr
  go_enter Tryd.func42, Tryd.ntmps42
  go_wp2_with fail
  refine (indexFunc_Zone (fun x : S47 => x.f0.toList == s.toList) 59 _ EG.out A c xs _ (Kd.C_below (Kd.C_below HR.out ((Below.refl _ _).alloc (Nat.le_refl _) _)) ((Below.refl _ _).alloc (Nat.le_refl _) _)) hl ⟨?_⟩).mono ?_
  · intro W x cs hb _ hK
    refine named1_Zone s x cs _ _ W hK ?_ ?_
    · refine pw_cell_below hb ?_
      go_simp
    · refine pw_cell_below hb ?_
      go_simp
  · rintro e w1 ⟨rfl, hb⟩
    have HB : Below w.heap.size w w1 := (((Below.refl _ _).alloc (Nat.le_refl _) _).alloc (by simp) _).trans (hb.mono (by simp; omega))
    clear hb
    go_wp2_with fail
    go_ret
    exact ⟨rfl, HB⟩
set_option maxHeartbeats 1600000 in
theorem names_Zone (A : Option Addr) (c i : Nat) (xs : List S47) (w : World) (hr : Kd.C k47 w A xs.length xs) (hl : xs.length ≤ 140737488351232) (hi : i < xs.length) (hc : xs.length ≤ c) :
    Calls Tryd.prog 14 #[.slice A xs.length c, .int .i64 i, .func (.func 15) #[] #[]] w fun e w' => e = .returned (.int .i64 (nameErr ((xs.take i).map (fun x => x.f0.toList)) (xs.getD i z47).f0.toList)) ∧ Below w.heap.size w w' := by
  have HR := Aside0.mk hr
  obtain ⟨ad, cs, rfl, _, hK, hcell0⟩ := Kd.C_get hr z47 (i : Int) (by omega) (by omega)
  rw [Int.toNat_natCast] at hK hcell0
  have hcell := Aside0.mk (show ∀ j u, cs[j]? = some u → w.cell? (ad.add (i * 4 + j)) = some u from hcell0)
  clear hcell0 hr
  generalize xs.getD i z47 = y at hK
  have HN := Aside0.mk (fun W => name_calls y.f0 W)
  have HD := Aside0.mk (show ∀ (w0 : World) (C : Nat), Below w.heap.size w w0 → Calls Tryd.prog 42 #[.slice (some ad) i C, .func (.func 15) #[] #[], .string y.f0] w0 fun e w' => e = .returned (.int .i64 (idxP (fun x : S47 => x.f0.toList == y.f0.toList) (xs.take i) 0)) ∧ Below w0.heap.size w0 w' from fun w0 C hb => by
    have h1 := Kd.C_take (Kd.C_below HR.out hb) (show i ≤ xs.length by omega)
    have h2 := named_Zone y.f0 (some ad) C (xs.take i) w0 h1 (by simp; omega)
    rwa [List.length_take_of_le (by omega)] at h2)
  have HC := Aside0.mk (fun W hb => zoneName_calls y cs W (k47.K_below hb hK))
  obtain ⟨B3, d3, rfl, _⟩ := k47_open hK
  have hx0 : w.cell? (ad.add (i * 4)) = some (.string y.f0) := hcell.out 0 _ rfl
  have hx1 : w.cell? ⟨(ad.add (i * 4)).block, (ad.add (i * 4)).off + 1, none⟩ = some (.int .u64 y.f1.f0) := by rw [← add_field _ _ 1 (by omega)]; exact hcell.out 1 _ rfl
  have hx2 : w.cell? ⟨(ad.add (i * 4)).block, (ad.add (i * 4)).off + 2, none⟩ = some (.int .u64 y.f1.f1) := by rw [← add_field _ _ 2 (by omega)]; exact hcell.out 2 _ rfl
  have hx3 : w.cell? ⟨(ad.add (i * 4)).block, (ad.add (i * 4)).off + 3, none⟩ = some (.slice B3 y.f2.length d3) := by rw [← add_field _ _ 3 (by omega)]; exact hcell.out 3 _ rfl
  clear hcell hK HR
  go_enter Tryd.func14, Tryd.ntmps14
  go_wp2_with fail
  refine (HC.out w (Below.refl _ _)).mono ?_
  rintro e w1 ⟨rfl, hb⟩
  have HB1 : Below w.heap.size w w1 := hb
  clear hb HC hx0 hx1 hx2 hx3
  go_wp2_with fail
  refine (HN.out w1).mono ?_
  rintro e w2 ⟨rfl, hb⟩
  have HB2 : Below w.heap.size w w2 := bthen HB1 hb
  clear hb HN HB1
  cases hn : nameB y.f0.data.toList with
  | false =>
    have HE : Aside0 (nameErr ((xs.take i).map (fun x => x.f0.toList)) y.f0.toList = 62) := ⟨by unfold nameErr; rw [Lib.toList_data, hn]; rfl⟩
    clear hn HD
    go_wp2_with fail
    go_ret
    exact ⟨by rw [HE.out]; rfl, HB2⟩
  | true =>
    have HE : Aside0 (nameErr ((xs.take i).map (fun x => x.f0.toList)) y.f0.toList = if (xs.take i).any (fun x => x.f0.toList == y.f0.toList) = true then 63 else 0) := ⟨by unfold nameErr; rw [Lib.toList_data y.f0, hn, ← Lib.toList_data y.f0, List.any_map]; rfl⟩
    have HX := Aside0.mk (idxP_neg (fun x : S47 => x.f0.toList == y.f0.toList) (xs.take i) 0 (Int.le_refl _))
    clear hn
    have HD2 := Aside0.mk (fun C => HD.out w2 C HB2)
    clear HD
    generalize idxP (fun x : S47 => x.f0.toList == y.f0.toList) (xs.take i) 0 = r at HX HD2
    go_wp2_with fail
    refine (HD2.out _).mono ?_
    rintro e w3 ⟨rfl, hb⟩
    have HB3 : Below w.heap.size w w3 := bthen HB2 hb
    clear hb HD2 HB2
    rcases HX.out with ⟨a, b⟩ | ⟨a, b⟩
    · subst a
      rw [b] at HE
      clear b HX
      go_wp2_with fail
      go_ret
      exact ⟨by rw [HE.out]; rfl, HB3⟩
    · rw [b] at HE
      clear b HX
      go_wp2_with fail
      go_ret
      exact ⟨by rw [HE.out]; rfl, HB3⟩

theorem objectName_calls (x : S53) (cs : List Value) (w : World) (hK : k53.K w x cs) : Calls Tryd.prog 18 #[.agg cs.toArray] w fun e w' => e = .returned (.string x.f0) ∧ Below w.heap.size w w' := by
  obtain ⟨B1, d1, rfl, _⟩ := k53_open hK
  clear hK
  go_enter Tryd.func18, Tryd.ntmps18
  go_wp2_with fail
  go_ret
  exact ⟨rfl, (Below.refl _ _).alloc (Nat.le_refl _) _⟩
set_option maxHeartbeats 1600000 in
theorem named1_Object (s : ByteArray) (x : S53) (cs : List Value) (b1 b2 : Nat) (w : World) (hK : k53.K w x cs) (h1 : w.cell? ⟨b1, 0, none⟩ = some (.func (.func 18) #[] #[])) (h2 : w.cell? ⟨b2, 0, none⟩ = some (.string s)) :
    Calls Tryd.prog 61 (#[.agg cs.toArray] ++ #[.pointer (some ⟨b1, 0, none⟩), .pointer (some ⟨b2, 0, none⟩)]) w fun e w' => e = .returned (.bool (x.f0.toList == s.toList)) ∧ Below w.heap.size w w' := by
  have Hc0 : ∀ W : World, Below w.heap.size w W → Calls Tryd.prog 18 #[.agg cs.toArray] W fun e w' => e = .returned (.string x.f0) ∧ Below W.heap.size W w' := fun W hW => objectName_calls x cs W (k53.K_below hW hK)
  obtain ⟨B1, d1, rfl, _⟩ := k53_open hK
  have Hc := Aside0.mk Hc0
  clear Hc0 hK
  go_enter Tryd.func61, Tryd.ntmps61
  go_wp2_with fail
  have HB : Below w.heap.size w (w.alloc (Obj.cells #[Value.string x.f0, Value.slice B1 x.f1.length d1] 53)) := (Below.refl _ _).alloc (Nat.le_refl _) _
  have k1 : (w.alloc (Obj.cells #[Value.string x.f0, Value.slice B1 x.f1.length d1] 53)).cell? ⟨b1, 0, none⟩ = some (.func (.func 18) #[] #[]) := pw_cell_below HB h1
  have k2 : (w.alloc (Obj.cells #[Value.string x.f0, Value.slice B1 x.f1.length d1] 53)).cell? ⟨b2, 0, none⟩ = some (.string s) := pw_cell_below HB h2
  have c0 : (w.alloc (Obj.cells #[Value.string x.f0, Value.slice B1 x.f1.length d1] 53)).cell? ⟨w.heap.size, 0, none⟩ = some (.string x.f0) := by go_simp
  have c1 : (w.alloc (Obj.cells #[Value.string x.f0, Value.slice B1 x.f1.length d1] 53)).cell? ⟨w.heap.size, 1, none⟩ = some (.slice B1 x.f1.length d1) := by go_simp
  generalize w.alloc (Obj.cells #[Value.string x.f0, Value.slice B1 x.f1.length d1] 53) = w1 at *
  clear h1 h2
  go_region_held3 (fun w' => Below w.heap.size w w' ∧ w'.cell? ⟨b1, 0, none⟩ = some (.func (.func 18) #[] #[]) ∧ w'.cell? ⟨b2, 0, none⟩ = some (.string s) ∧ w'.cell? ⟨w.heap.size, 0, none⟩ = some (.string x.f0) ∧ w'.cell? ⟨w.heap.size, 1, none⟩ = some (.slice B1 x.f1.length d1))
    (first | ((repeat' apply And.intro) <;> first | (refine Below.drew ?_; assumption) | go_keep) | (go_split_ands; refine ⟨bthen (by assumption) (by assumption), ?_⟩; (repeat' apply And.intro) <;> (refine pw_cell_below (by assumption) ?_; assumption)))
    (first | (go_at_call 18; refine (Hc.out _ (by first | assumption | exact And.left (by assumption))).mono ?_; rintro e w' ⟨rfl, hb⟩))
  go_wp2_with fail
  go_ret
  exact ⟨rfl, And.left (by assumption)⟩
set_option maxHeartbeats 1600000 in
theorem named_Object (s : ByteArray) (A : Option Addr) (c : Nat) (xs : List S53) (w : World) (hr : Kd.C k53 w A xs.length xs) (hl : xs.length ≤ 140737488351232) :
    Calls Tryd.prog 43 #[.slice A xs.length c, .func (.func 18) #[] #[], .string s] w fun e w' => e = .returned (.int .i64 (idxP (fun x : S53 => x.f0.toList == s.toList) xs 0)) ∧ Below w.heap.size w w' := by
  have HR := Aside0.mk hr
  have EG := Aside0.mk (show ∀ args w, (callFunc 61 args).run Tryd.prog w = .ok (.enter 61 args) w from enters_of Tryd.func61 (by kernel_rfl) rfl)
  clear hr
  go_enter Tryd.func43, Tryd.ntmps43
  go_wp2_with fail
  refine (indexFunc_Object (fun x : S53 => x.f0.toList == s.toList) 61 _ EG.out A c xs _ (Kd.C_below (Kd.C_below HR.out ((Below.refl _ _).alloc (Nat.le_refl _) _)) ((Below.refl _ _).alloc (Nat.le_refl _) _)) hl ⟨?_⟩).mono ?_
  · intro W x cs hb _ hK
    refine named1_Object s x cs _ _ W hK ?_ ?_
    · refine pw_cell_below hb ?_
      go_simp
    · refine pw_cell_below hb ?_
      go_simp
  · rintro e w1 ⟨rfl, hb⟩
    have HB : Below w.heap.size w w1 := (((Below.refl _ _).alloc (Nat.le_refl _) _).alloc (by simp) _).trans (hb.mono (by simp; omega))
    clear hb
    go_wp2_with fail
    go_ret
    exact ⟨rfl, HB⟩
set_option maxHeartbeats 1600000 in
theorem names_Object (A : Option Addr) (c i : Nat) (xs : List S53) (w : World) (hr : Kd.C k53 w A xs.length xs) (hl : xs.length ≤ 140737488351232) (hi : i < xs.length) (hc : xs.length ≤ c) :
    Calls Tryd.prog 17 #[.slice A xs.length c, .int .i64 i, .func (.func 18) #[] #[]] w fun e w' => e = .returned (.int .i64 (nameErr ((xs.take i).map (fun x => x.f0.toList)) (xs.getD i z53).f0.toList)) ∧ Below w.heap.size w w' := by
  have HR := Aside0.mk hr
  obtain ⟨ad, cs, rfl, _, hK, hcell0⟩ := Kd.C_get hr z53 (i : Int) (by omega) (by omega)
  rw [Int.toNat_natCast] at hK hcell0
  have hcell := Aside0.mk (show ∀ j u, cs[j]? = some u → w.cell? (ad.add (i * 2 + j)) = some u from hcell0)
  clear hcell0 hr
  generalize xs.getD i z53 = y at hK
  have HN := Aside0.mk (fun W => name_calls y.f0 W)
  have HD := Aside0.mk (show ∀ (w0 : World) (C : Nat), Below w.heap.size w w0 → Calls Tryd.prog 43 #[.slice (some ad) i C, .func (.func 18) #[] #[], .string y.f0] w0 fun e w' => e = .returned (.int .i64 (idxP (fun x : S53 => x.f0.toList == y.f0.toList) (xs.take i) 0)) ∧ Below w0.heap.size w0 w' from fun w0 C hb => by
    have h1 := Kd.C_take (Kd.C_below HR.out hb) (show i ≤ xs.length by omega)
    have h2 := named_Object y.f0 (some ad) C (xs.take i) w0 h1 (by simp; omega)
    rwa [List.length_take_of_le (by omega)] at h2)
  have HC := Aside0.mk (fun W hb => objectName_calls y cs W (k53.K_below hb hK))
  obtain ⟨B1, d1, rfl, _⟩ := k53_open hK
  have hx0 : w.cell? (ad.add (i * 2)) = some (.string y.f0) := hcell.out 0 _ rfl
  have hx1 : w.cell? ⟨(ad.add (i * 2)).block, (ad.add (i * 2)).off + 1, none⟩ = some (.slice B1 y.f1.length d1) := by rw [← add_field _ _ 1 (by omega)]; exact hcell.out 1 _ rfl
  clear hcell hK HR
  go_enter Tryd.func17, Tryd.ntmps17
  go_wp2_with fail
  refine (HC.out w (Below.refl _ _)).mono ?_
  rintro e w1 ⟨rfl, hb⟩
  have HB1 : Below w.heap.size w w1 := hb
  clear hb HC hx0 hx1
  go_wp2_with fail
  refine (HN.out w1).mono ?_
  rintro e w2 ⟨rfl, hb⟩
  have HB2 : Below w.heap.size w w2 := bthen HB1 hb
  clear hb HN HB1
  cases hn : nameB y.f0.data.toList with
  | false =>
    have HE : Aside0 (nameErr ((xs.take i).map (fun x => x.f0.toList)) y.f0.toList = 62) := ⟨by unfold nameErr; rw [Lib.toList_data, hn]; rfl⟩
    clear hn HD
    go_wp2_with fail
    go_ret
    exact ⟨by rw [HE.out]; rfl, HB2⟩
  | true =>
    have HE : Aside0 (nameErr ((xs.take i).map (fun x => x.f0.toList)) y.f0.toList = if (xs.take i).any (fun x => x.f0.toList == y.f0.toList) = true then 63 else 0) := ⟨by unfold nameErr; rw [Lib.toList_data y.f0, hn, ← Lib.toList_data y.f0, List.any_map]; rfl⟩
    have HX := Aside0.mk (idxP_neg (fun x : S53 => x.f0.toList == y.f0.toList) (xs.take i) 0 (Int.le_refl _))
    clear hn
    have HD2 := Aside0.mk (fun C => HD.out w2 C HB2)
    clear HD
    generalize idxP (fun x : S53 => x.f0.toList == y.f0.toList) (xs.take i) 0 = r at HX HD2
    go_wp2_with fail
    refine (HD2.out _).mono ?_
    rintro e w3 ⟨rfl, hb⟩
    have HB3 : Below w.heap.size w w3 := bthen HB2 hb
    clear hb HD2 HB2
    rcases HX.out with ⟨a, b⟩ | ⟨a, b⟩
    · subst a
      rw [b] at HE
      clear b HX
      go_wp2_with fail
      go_ret
      exact ⟨by rw [HE.out]; rfl, HB3⟩
    · rw [b] at HE
      clear b HX
      go_wp2_with fail
      go_ret
      exact ⟨by rw [HE.out]; rfl, HB3⟩

theorem serviceName_calls (x : S61) (cs : List Value) (w : World) (hK : k61.K w x cs) : Calls Tryd.prog 21 #[.agg cs.toArray] w fun e w' => e = .returned (.string x.f0) ∧ Below w.heap.size w w' := by
  obtain rfl := k61_open hK
  clear hK
  go_enter Tryd.func21, Tryd.ntmps21
  go_wp2_with fail
  go_ret
  exact ⟨rfl, (Below.refl _ _).alloc (Nat.le_refl _) _⟩
set_option maxHeartbeats 1600000 in
theorem named1_Service (s : ByteArray) (x : S61) (cs : List Value) (b1 b2 : Nat) (w : World) (hK : k61.K w x cs) (h1 : w.cell? ⟨b1, 0, none⟩ = some (.func (.func 21) #[] #[])) (h2 : w.cell? ⟨b2, 0, none⟩ = some (.string s)) :
    Calls Tryd.prog 54 (#[.agg cs.toArray] ++ #[.pointer (some ⟨b1, 0, none⟩), .pointer (some ⟨b2, 0, none⟩)]) w fun e w' => e = .returned (.bool (x.f0.toList == s.toList)) ∧ Below w.heap.size w w' := by
  have Hc0 : ∀ W : World, Below w.heap.size w W → Calls Tryd.prog 21 #[.agg cs.toArray] W fun e w' => e = .returned (.string x.f0) ∧ Below W.heap.size W w' := fun W hW => serviceName_calls x cs W (k61.K_below hW hK)
  obtain rfl := k61_open hK
  have Hc := Aside0.mk Hc0
  clear Hc0 hK
  go_enter Tryd.func54, Tryd.ntmps54
  go_wp2_with fail
  have HB : Below w.heap.size w (w.alloc (Obj.cells #[Value.string x.f0, Value.int IntKind.i64 x.f1, Value.int IntKind.i64 x.f2, Value.int IntKind.i64 x.f3] 61)) := (Below.refl _ _).alloc (Nat.le_refl _) _
  have k1 : (w.alloc (Obj.cells #[Value.string x.f0, Value.int IntKind.i64 x.f1, Value.int IntKind.i64 x.f2, Value.int IntKind.i64 x.f3] 61)).cell? ⟨b1, 0, none⟩ = some (.func (.func 21) #[] #[]) := pw_cell_below HB h1
  have k2 : (w.alloc (Obj.cells #[Value.string x.f0, Value.int IntKind.i64 x.f1, Value.int IntKind.i64 x.f2, Value.int IntKind.i64 x.f3] 61)).cell? ⟨b2, 0, none⟩ = some (.string s) := pw_cell_below HB h2
  have c0 : (w.alloc (Obj.cells #[Value.string x.f0, Value.int IntKind.i64 x.f1, Value.int IntKind.i64 x.f2, Value.int IntKind.i64 x.f3] 61)).cell? ⟨w.heap.size, 0, none⟩ = some (.string x.f0) := by go_simp
  have c1 : (w.alloc (Obj.cells #[Value.string x.f0, Value.int IntKind.i64 x.f1, Value.int IntKind.i64 x.f2, Value.int IntKind.i64 x.f3] 61)).cell? ⟨w.heap.size, 1, none⟩ = some (.int .i64 x.f1) := by go_simp
  have c2 : (w.alloc (Obj.cells #[Value.string x.f0, Value.int IntKind.i64 x.f1, Value.int IntKind.i64 x.f2, Value.int IntKind.i64 x.f3] 61)).cell? ⟨w.heap.size, 2, none⟩ = some (.int .i64 x.f2) := by go_simp
  have c3 : (w.alloc (Obj.cells #[Value.string x.f0, Value.int IntKind.i64 x.f1, Value.int IntKind.i64 x.f2, Value.int IntKind.i64 x.f3] 61)).cell? ⟨w.heap.size, 3, none⟩ = some (.int .i64 x.f3) := by go_simp
  generalize w.alloc (Obj.cells #[Value.string x.f0, Value.int IntKind.i64 x.f1, Value.int IntKind.i64 x.f2, Value.int IntKind.i64 x.f3] 61) = w1 at *
  clear h1 h2
  go_region_held3 (fun w' => Below w.heap.size w w' ∧ w'.cell? ⟨b1, 0, none⟩ = some (.func (.func 21) #[] #[]) ∧ w'.cell? ⟨b2, 0, none⟩ = some (.string s) ∧ w'.cell? ⟨w.heap.size, 0, none⟩ = some (.string x.f0) ∧ w'.cell? ⟨w.heap.size, 1, none⟩ = some (.int .i64 x.f1) ∧ w'.cell? ⟨w.heap.size, 2, none⟩ = some (.int .i64 x.f2) ∧ w'.cell? ⟨w.heap.size, 3, none⟩ = some (.int .i64 x.f3))
    (first | ((repeat' apply And.intro) <;> first | (refine Below.drew ?_; assumption) | go_keep) | (go_split_ands; refine ⟨bthen (by assumption) (by assumption), ?_⟩; (repeat' apply And.intro) <;> (refine pw_cell_below (by assumption) ?_; assumption)))
    (first | (go_at_call 21; refine (Hc.out _ (by first | assumption | exact And.left (by assumption))).mono ?_; rintro e w' ⟨rfl, hb⟩))
  go_wp2_with fail
  go_ret
  exact ⟨rfl, And.left (by assumption)⟩
set_option maxHeartbeats 1600000 in
theorem named_Service (s : ByteArray) (A : Option Addr) (c : Nat) (xs : List S61) (w : World) (hr : Kd.C k61 w A xs.length xs) (hl : xs.length ≤ 140737488351232) :
    Calls Tryd.prog 39 #[.slice A xs.length c, .func (.func 21) #[] #[], .string s] w fun e w' => e = .returned (.int .i64 (idxP (fun x : S61 => x.f0.toList == s.toList) xs 0)) ∧ Below w.heap.size w w' := by
  have HR := Aside0.mk hr
  have EG := Aside0.mk (show ∀ args w, (callFunc 54 args).run Tryd.prog w = .ok (.enter 54 args) w from enters_of Tryd.func54 (by kernel_rfl) rfl)
  clear hr
  go_enter Tryd.func39, Tryd.ntmps39
  go_wp2_with fail
  refine (indexFunc_Service (fun x : S61 => x.f0.toList == s.toList) 54 _ EG.out A c xs _ (Kd.C_below (Kd.C_below HR.out ((Below.refl _ _).alloc (Nat.le_refl _) _)) ((Below.refl _ _).alloc (Nat.le_refl _) _)) hl ⟨?_⟩).mono ?_
  · intro W x cs hb _ hK
    refine named1_Service s x cs _ _ W hK ?_ ?_
    · refine pw_cell_below hb ?_
      go_simp
    · refine pw_cell_below hb ?_
      go_simp
  · rintro e w1 ⟨rfl, hb⟩
    have HB : Below w.heap.size w w1 := (((Below.refl _ _).alloc (Nat.le_refl _) _).alloc (by simp) _).trans (hb.mono (by simp; omega))
    clear hb
    go_wp2_with fail
    go_ret
    exact ⟨rfl, HB⟩
set_option maxHeartbeats 1600000 in
theorem names_Service (A : Option Addr) (c i : Nat) (xs : List S61) (w : World) (hr : Kd.C k61 w A xs.length xs) (hl : xs.length ≤ 140737488351232) (hi : i < xs.length) (hc : xs.length ≤ c) :
    Calls Tryd.prog 20 #[.slice A xs.length c, .int .i64 i, .func (.func 21) #[] #[]] w fun e w' => e = .returned (.int .i64 (nameErr ((xs.take i).map (fun x => x.f0.toList)) (xs.getD i z61).f0.toList)) ∧ Below w.heap.size w w' := by
  have HR := Aside0.mk hr
  obtain ⟨ad, cs, rfl, _, hK, hcell0⟩ := Kd.C_get hr z61 (i : Int) (by omega) (by omega)
  rw [Int.toNat_natCast] at hK hcell0
  have hcell := Aside0.mk (show ∀ j u, cs[j]? = some u → w.cell? (ad.add (i * 4 + j)) = some u from hcell0)
  clear hcell0 hr
  generalize xs.getD i z61 = y at hK
  have HN := Aside0.mk (fun W => name_calls y.f0 W)
  have HD := Aside0.mk (show ∀ (w0 : World) (C : Nat), Below w.heap.size w w0 → Calls Tryd.prog 39 #[.slice (some ad) i C, .func (.func 21) #[] #[], .string y.f0] w0 fun e w' => e = .returned (.int .i64 (idxP (fun x : S61 => x.f0.toList == y.f0.toList) (xs.take i) 0)) ∧ Below w0.heap.size w0 w' from fun w0 C hb => by
    have h1 := Kd.C_take (Kd.C_below HR.out hb) (show i ≤ xs.length by omega)
    have h2 := named_Service y.f0 (some ad) C (xs.take i) w0 h1 (by simp; omega)
    rwa [List.length_take_of_le (by omega)] at h2)
  have HC := Aside0.mk (fun W hb => serviceName_calls y cs W (k61.K_below hb hK))
  obtain rfl := k61_open hK
  have hx0 : w.cell? (ad.add (i * 4)) = some (.string y.f0) := hcell.out 0 _ rfl
  have hx1 : w.cell? ⟨(ad.add (i * 4)).block, (ad.add (i * 4)).off + 1, none⟩ = some (.int .i64 y.f1) := by rw [← add_field _ _ 1 (by omega)]; exact hcell.out 1 _ rfl
  have hx2 : w.cell? ⟨(ad.add (i * 4)).block, (ad.add (i * 4)).off + 2, none⟩ = some (.int .i64 y.f2) := by rw [← add_field _ _ 2 (by omega)]; exact hcell.out 2 _ rfl
  have hx3 : w.cell? ⟨(ad.add (i * 4)).block, (ad.add (i * 4)).off + 3, none⟩ = some (.int .i64 y.f3) := by rw [← add_field _ _ 3 (by omega)]; exact hcell.out 3 _ rfl
  clear hcell hK HR
  go_enter Tryd.func20, Tryd.ntmps20
  go_wp2_with fail
  refine (HC.out w (Below.refl _ _)).mono ?_
  rintro e w1 ⟨rfl, hb⟩
  have HB1 : Below w.heap.size w w1 := hb
  clear hb HC hx0 hx1 hx2 hx3
  go_wp2_with fail
  refine (HN.out w1).mono ?_
  rintro e w2 ⟨rfl, hb⟩
  have HB2 : Below w.heap.size w w2 := bthen HB1 hb
  clear hb HN HB1
  cases hn : nameB y.f0.data.toList with
  | false =>
    have HE : Aside0 (nameErr ((xs.take i).map (fun x => x.f0.toList)) y.f0.toList = 62) := ⟨by unfold nameErr; rw [Lib.toList_data, hn]; rfl⟩
    clear hn HD
    go_wp2_with fail
    go_ret
    exact ⟨by rw [HE.out]; rfl, HB2⟩
  | true =>
    have HE : Aside0 (nameErr ((xs.take i).map (fun x => x.f0.toList)) y.f0.toList = if (xs.take i).any (fun x => x.f0.toList == y.f0.toList) = true then 63 else 0) := ⟨by unfold nameErr; rw [Lib.toList_data y.f0, hn, ← Lib.toList_data y.f0, List.any_map]; rfl⟩
    have HX := Aside0.mk (idxP_neg (fun x : S61 => x.f0.toList == y.f0.toList) (xs.take i) 0 (Int.le_refl _))
    clear hn
    have HD2 := Aside0.mk (fun C => HD.out w2 C HB2)
    clear HD
    generalize idxP (fun x : S61 => x.f0.toList == y.f0.toList) (xs.take i) 0 = r at HX HD2
    go_wp2_with fail
    refine (HD2.out _).mono ?_
    rintro e w3 ⟨rfl, hb⟩
    have HB3 : Below w.heap.size w w3 := bthen HB2 hb
    clear hb HD2 HB2
    rcases HX.out with ⟨a, b⟩ | ⟨a, b⟩
    · subst a
      rw [b] at HE
      clear b HX
      go_wp2_with fail
      go_ret
      exact ⟨by rw [HE.out]; rfl, HB3⟩
    · rw [b] at HE
      clear b HX
      go_wp2_with fail
      go_ret
      exact ⟨by rw [HE.out]; rfl, HB3⟩

theorem limitName_calls (x : S32) (cs : List Value) (w : World) (hK : k32.K w x cs) : Calls Tryd.prog 24 #[.agg cs.toArray] w fun e w' => e = .returned (.string x.f0) ∧ Below w.heap.size w w' := by
  obtain rfl := k32_open hK
  clear hK
  go_enter Tryd.func24, Tryd.ntmps24
  go_wp2_with fail
  go_ret
  exact ⟨rfl, (Below.refl _ _).alloc (Nat.le_refl _) _⟩
set_option maxHeartbeats 1600000 in
theorem named1_Limit (s : ByteArray) (x : S32) (cs : List Value) (b1 b2 : Nat) (w : World) (hK : k32.K w x cs) (h1 : w.cell? ⟨b1, 0, none⟩ = some (.func (.func 24) #[] #[])) (h2 : w.cell? ⟨b2, 0, none⟩ = some (.string s)) :
    Calls Tryd.prog 56 (#[.agg cs.toArray] ++ #[.pointer (some ⟨b1, 0, none⟩), .pointer (some ⟨b2, 0, none⟩)]) w fun e w' => e = .returned (.bool (x.f0.toList == s.toList)) ∧ Below w.heap.size w w' := by
  have Hc0 : ∀ W : World, Below w.heap.size w W → Calls Tryd.prog 24 #[.agg cs.toArray] W fun e w' => e = .returned (.string x.f0) ∧ Below W.heap.size W w' := fun W hW => limitName_calls x cs W (k32.K_below hW hK)
  obtain rfl := k32_open hK
  have Hc := Aside0.mk Hc0
  clear Hc0 hK
  go_enter Tryd.func56, Tryd.ntmps56
  go_wp2_with fail
  have HB : Below w.heap.size w (w.alloc (Obj.cells #[Value.string x.f0, Value.int IntKind.i64 x.f1, Value.int IntKind.i64 x.f2, Value.bool x.f3] 32)) := (Below.refl _ _).alloc (Nat.le_refl _) _
  have k1 : (w.alloc (Obj.cells #[Value.string x.f0, Value.int IntKind.i64 x.f1, Value.int IntKind.i64 x.f2, Value.bool x.f3] 32)).cell? ⟨b1, 0, none⟩ = some (.func (.func 24) #[] #[]) := pw_cell_below HB h1
  have k2 : (w.alloc (Obj.cells #[Value.string x.f0, Value.int IntKind.i64 x.f1, Value.int IntKind.i64 x.f2, Value.bool x.f3] 32)).cell? ⟨b2, 0, none⟩ = some (.string s) := pw_cell_below HB h2
  have c0 : (w.alloc (Obj.cells #[Value.string x.f0, Value.int IntKind.i64 x.f1, Value.int IntKind.i64 x.f2, Value.bool x.f3] 32)).cell? ⟨w.heap.size, 0, none⟩ = some (.string x.f0) := by go_simp
  have c1 : (w.alloc (Obj.cells #[Value.string x.f0, Value.int IntKind.i64 x.f1, Value.int IntKind.i64 x.f2, Value.bool x.f3] 32)).cell? ⟨w.heap.size, 1, none⟩ = some (.int .i64 x.f1) := by go_simp
  have c2 : (w.alloc (Obj.cells #[Value.string x.f0, Value.int IntKind.i64 x.f1, Value.int IntKind.i64 x.f2, Value.bool x.f3] 32)).cell? ⟨w.heap.size, 2, none⟩ = some (.int .i64 x.f2) := by go_simp
  have c3 : (w.alloc (Obj.cells #[Value.string x.f0, Value.int IntKind.i64 x.f1, Value.int IntKind.i64 x.f2, Value.bool x.f3] 32)).cell? ⟨w.heap.size, 3, none⟩ = some (.bool x.f3) := by go_simp
  generalize w.alloc (Obj.cells #[Value.string x.f0, Value.int IntKind.i64 x.f1, Value.int IntKind.i64 x.f2, Value.bool x.f3] 32) = w1 at *
  clear h1 h2
  go_region_held3 (fun w' => Below w.heap.size w w' ∧ w'.cell? ⟨b1, 0, none⟩ = some (.func (.func 24) #[] #[]) ∧ w'.cell? ⟨b2, 0, none⟩ = some (.string s) ∧ w'.cell? ⟨w.heap.size, 0, none⟩ = some (.string x.f0) ∧ w'.cell? ⟨w.heap.size, 1, none⟩ = some (.int .i64 x.f1) ∧ w'.cell? ⟨w.heap.size, 2, none⟩ = some (.int .i64 x.f2) ∧ w'.cell? ⟨w.heap.size, 3, none⟩ = some (.bool x.f3))
    (first | ((repeat' apply And.intro) <;> first | (refine Below.drew ?_; assumption) | go_keep) | (go_split_ands; refine ⟨bthen (by assumption) (by assumption), ?_⟩; (repeat' apply And.intro) <;> (refine pw_cell_below (by assumption) ?_; assumption)))
    (first | (go_at_call 24; refine (Hc.out _ (by first | assumption | exact And.left (by assumption))).mono ?_; rintro e w' ⟨rfl, hb⟩))
  go_wp2_with fail
  go_ret
  exact ⟨rfl, And.left (by assumption)⟩
set_option maxHeartbeats 1600000 in
theorem named_Limit (s : ByteArray) (A : Option Addr) (c : Nat) (xs : List S32) (w : World) (hr : Kd.C k32 w A xs.length xs) (hl : xs.length ≤ 140737488351232) :
    Calls Tryd.prog 40 #[.slice A xs.length c, .func (.func 24) #[] #[], .string s] w fun e w' => e = .returned (.int .i64 (idxP (fun x : S32 => x.f0.toList == s.toList) xs 0)) ∧ Below w.heap.size w w' := by
  have HR := Aside0.mk hr
  have EG := Aside0.mk (show ∀ args w, (callFunc 56 args).run Tryd.prog w = .ok (.enter 56 args) w from enters_of Tryd.func56 (by kernel_rfl) rfl)
  clear hr
  go_enter Tryd.func40, Tryd.ntmps40
  go_wp2_with fail
  refine (indexFunc_Limit (fun x : S32 => x.f0.toList == s.toList) 56 _ EG.out A c xs _ (Kd.C_below (Kd.C_below HR.out ((Below.refl _ _).alloc (Nat.le_refl _) _)) ((Below.refl _ _).alloc (Nat.le_refl _) _)) hl ⟨?_⟩).mono ?_
  · intro W x cs hb _ hK
    refine named1_Limit s x cs _ _ W hK ?_ ?_
    · refine pw_cell_below hb ?_
      go_simp
    · refine pw_cell_below hb ?_
      go_simp
  · rintro e w1 ⟨rfl, hb⟩
    have HB : Below w.heap.size w w1 := (((Below.refl _ _).alloc (Nat.le_refl _) _).alloc (by simp) _).trans (hb.mono (by simp; omega))
    clear hb
    go_wp2_with fail
    go_ret
    exact ⟨rfl, HB⟩
set_option maxHeartbeats 1600000 in
theorem names_Limit (A : Option Addr) (c i : Nat) (xs : List S32) (w : World) (hr : Kd.C k32 w A xs.length xs) (hl : xs.length ≤ 140737488351232) (hi : i < xs.length) (hc : xs.length ≤ c) :
    Calls Tryd.prog 23 #[.slice A xs.length c, .int .i64 i, .func (.func 24) #[] #[]] w fun e w' => e = .returned (.int .i64 (nameErr ((xs.take i).map (fun x => x.f0.toList)) (xs.getD i z32).f0.toList)) ∧ Below w.heap.size w w' := by
  have HR := Aside0.mk hr
  obtain ⟨ad, cs, rfl, _, hK, hcell0⟩ := Kd.C_get hr z32 (i : Int) (by omega) (by omega)
  rw [Int.toNat_natCast] at hK hcell0
  have hcell := Aside0.mk (show ∀ j u, cs[j]? = some u → w.cell? (ad.add (i * 4 + j)) = some u from hcell0)
  clear hcell0 hr
  generalize xs.getD i z32 = y at hK
  have HN := Aside0.mk (fun W => name_calls y.f0 W)
  have HD := Aside0.mk (show ∀ (w0 : World) (C : Nat), Below w.heap.size w w0 → Calls Tryd.prog 40 #[.slice (some ad) i C, .func (.func 24) #[] #[], .string y.f0] w0 fun e w' => e = .returned (.int .i64 (idxP (fun x : S32 => x.f0.toList == y.f0.toList) (xs.take i) 0)) ∧ Below w0.heap.size w0 w' from fun w0 C hb => by
    have h1 := Kd.C_take (Kd.C_below HR.out hb) (show i ≤ xs.length by omega)
    have h2 := named_Limit y.f0 (some ad) C (xs.take i) w0 h1 (by simp; omega)
    rwa [List.length_take_of_le (by omega)] at h2)
  have HC := Aside0.mk (fun W hb => limitName_calls y cs W (k32.K_below hb hK))
  obtain rfl := k32_open hK
  have hx0 : w.cell? (ad.add (i * 4)) = some (.string y.f0) := hcell.out 0 _ rfl
  have hx1 : w.cell? ⟨(ad.add (i * 4)).block, (ad.add (i * 4)).off + 1, none⟩ = some (.int .i64 y.f1) := by rw [← add_field _ _ 1 (by omega)]; exact hcell.out 1 _ rfl
  have hx2 : w.cell? ⟨(ad.add (i * 4)).block, (ad.add (i * 4)).off + 2, none⟩ = some (.int .i64 y.f2) := by rw [← add_field _ _ 2 (by omega)]; exact hcell.out 2 _ rfl
  have hx3 : w.cell? ⟨(ad.add (i * 4)).block, (ad.add (i * 4)).off + 3, none⟩ = some (.bool y.f3) := by rw [← add_field _ _ 3 (by omega)]; exact hcell.out 3 _ rfl
  clear hcell hK HR
  go_enter Tryd.func23, Tryd.ntmps23
  go_wp2_with fail
  refine (HC.out w (Below.refl _ _)).mono ?_
  rintro e w1 ⟨rfl, hb⟩
  have HB1 : Below w.heap.size w w1 := hb
  clear hb HC hx0 hx1 hx2 hx3
  go_wp2_with fail
  refine (HN.out w1).mono ?_
  rintro e w2 ⟨rfl, hb⟩
  have HB2 : Below w.heap.size w w2 := bthen HB1 hb
  clear hb HN HB1
  cases hn : nameB y.f0.data.toList with
  | false =>
    have HE : Aside0 (nameErr ((xs.take i).map (fun x => x.f0.toList)) y.f0.toList = 62) := ⟨by unfold nameErr; rw [Lib.toList_data, hn]; rfl⟩
    clear hn HD
    go_wp2_with fail
    go_ret
    exact ⟨by rw [HE.out]; rfl, HB2⟩
  | true =>
    have HE : Aside0 (nameErr ((xs.take i).map (fun x => x.f0.toList)) y.f0.toList = if (xs.take i).any (fun x => x.f0.toList == y.f0.toList) = true then 63 else 0) := ⟨by unfold nameErr; rw [Lib.toList_data y.f0, hn, ← Lib.toList_data y.f0, List.any_map]; rfl⟩
    have HX := Aside0.mk (idxP_neg (fun x : S32 => x.f0.toList == y.f0.toList) (xs.take i) 0 (Int.le_refl _))
    clear hn
    have HD2 := Aside0.mk (fun C => HD.out w2 C HB2)
    clear HD
    generalize idxP (fun x : S32 => x.f0.toList == y.f0.toList) (xs.take i) 0 = r at HX HD2
    go_wp2_with fail
    refine (HD2.out _).mono ?_
    rintro e w3 ⟨rfl, hb⟩
    have HB3 : Below w.heap.size w w3 := bthen HB2 hb
    clear hb HD2 HB2
    rcases HX.out with ⟨a, b⟩ | ⟨a, b⟩
    · subst a
      rw [b] at HE
      clear b HX
      go_wp2_with fail
      go_ret
      exact ⟨by rw [HE.out]; rfl, HB3⟩
    · rw [b] at HE
      clear b HX
      go_wp2_with fail
      go_ret
      exact ⟨by rw [HE.out]; rfl, HB3⟩

end Go.Proofs.YteocdfahhndfoaaDoor.Print
