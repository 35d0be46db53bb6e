/-
The walk of addr.read: what may be an address.
Conditions: texts shorter than 4294967281 bytes; the library's variables hold what they hold.
-/
import Derived.Test.YtgbkeciimddpnaaGreatDoorAddrW
import Derived.Test.YtgbkeciimddpnaaGreatDoorAddrG
import Derived.Laws.CopyOwn
namespace Go.Proofs.YtgbkeciimddpnaaGreatDoor.Print
open Go Go.RowKit Go.Proofs.YtgbkeciimddpnaaGreatDoor.AddrP

/-- A row of numbers of 16 bits, as a slice that may be nil. -/
structure Row16 (A : Option Addr) (cap : Nat) (xs : List Nat) (base : Nat) (w : World) : Prop where
  cap : xs.length ≤ cap
  cells : 0 < xs.length → ∃ g, A = some ⟨g, 0, none⟩ ∧ base ≤ g ∧ g < w.heap.size ∧ ∀ (j : Nat) (x : Nat), xs[j]? = some x → w.cell? ⟨g, j, none⟩ = some (.int .u16 (x : Int))
theorem row16_of {w : World} {base : Nat} {v : Value} {xs : List Nat} (h : w.ownsRow base 62 1 v xs.length (xs.map fun x : Nat => Value.int .u16 (x : Int))) : ∃ A cap, v = .slice A xs.length cap ∧ Row16 A cap xs base w := by
  rcases h.2 with ⟨h1, h2⟩ | ⟨g, cap, cur, h1, h2, h3, h4, h5, h6, h7⟩
  · exact ⟨none, 0, by rw [h1, h2], by omega, fun h => by omega⟩
  · refine ⟨_, _, h1, h4, fun _ => ⟨g, rfl, h2, (h.lt g (by rw [h1]; rfl)).2, fun j x hj => ?_⟩⟩
    have := h.cells (g := g) (by rw [h1]; rfl) j (.int .u16 (x : Int)) (by simp [hj])
    rw [Lib.add_plain, Nat.zero_add] at this
    exact this
theorem Row16.below {A : Option Addr} {cap : Nat} {xs : List Nat} {base : Nat} {w w' : World} (h : Row16 A cap xs base w) (hb : Below w.heap.size w w') : Row16 A cap xs base w' :=
  ⟨h.cap, fun hp => by
    obtain ⟨g, h1, h2, h3, h4⟩ := h.cells hp
    exact ⟨g, h1, h2, Nat.lt_of_lt_of_le h3 hb.size, fun j x hj => (hb.cell (p := ⟨g, j, none⟩) h3).trans (h4 j x hj)⟩⟩

theorem jn_join4 (G : Nat → Int) (a b c d : Nat) (o : Nat) (h0 : G o = a) (h1 : G (o + 1) = b) (h2 : G (o + 2) = c) (h3 : G (o + 3) = d) : jn G o 4 = ((join4 [a, b, c, d] : Nat) : Int) := by
  simp only [jn, join4, List.foldl_cons, List.foldl_nil, Nat.add_zero, h0, h1, h2, h3]
  omega
theorem eight_parts {α : Type} : ∀ (F : List α), F.length = 8 → ∃ a b c d e f g h, F = [a, b, c, d, e, f, g, h]
  | [a, b, c, d, e, f, g, h], _ => ⟨a, b, c, d, e, f, g, h, rfl⟩
theorem joined_calls (F : List Nat) (hF : F.length = 8) (hb : ∀ x ∈ F, x ≤ 65535) (w : World) (G : Nat → Int) (hG : ∀ j, j < 8 → G j = ((F.getD j 0 : Nat) : Int)) :
    Calls Tryz.prog 50 #[.agg #[.int .u16 (G 0), .int .u16 (G 1), .int .u16 (G 2), .int .u16 (G 3), .int .u16 (G 4), .int .u16 (G 5), .int .u16 (G 6), .int .u16 (G 7)]] w fun e w' => e = .returned (.agg #[.int .u64 (joinG F).1, .int .u64 (joinG F).2]) ∧ Below w.heap.size w w' := by
  obtain ⟨a, b, c, d, e, f, g, h, rfl⟩ := eight_parts F hF
  refine joined_walk G (fun j hj => ?_) _ _ (Lib.hid ?_) (Lib.hid ?_) w
  · rw [hG j hj]
    have : [a, b, c, d, e, f, g, h].getD j 0 ≤ 65535 := by
      rw [List.getD_eq_getElem?_getD, List.getElem?_eq_getElem (by simpa using hj)]
      exact hb _ (List.getElem_mem _)
    omega
  · exact jn_join4 G a b c d 0 (hG 0 (by omega)) (hG 1 (by omega)) (hG 2 (by omega)) (hG 3 (by omega))
  · exact jn_join4 G e f g h 4 (hG 4 (by omega)) (hG 5 (by omega)) (hG 6 (by omega)) (hG 7 (by omega))

theorem ResA.setBelow {b B : Nat} {w0 w : World} (hB : Below B w0 w) (hb : B ≤ b) (x y : Int) : Below B w0 ((w.setCell ⟨b, 0, none⟩ (.int .u64 x)).setCell ⟨b, 1, none⟩ (.int .u64 y)) := (hB.setCell (p := ⟨b, 0, none⟩) hb _).setCell (p := ⟨b, 1, none⟩) hb _
/-- The library's variables that the reading uses. -/
structure LibVars (w : World) : Prop where
  err : ErrVars w
  len : ∃ m, w.cell? ⟨0, 0, none⟩ = some (.int .i64 m)
theorem LibVars.below {w w' : World} (h : LibVars w) (hb : Below w.heap.size w w') : LibVars w' := by
  obtain ⟨h1, m, h2⟩ := h
  exact ⟨h1.below hb, m, (hb.cell (p := ⟨0, 0, none⟩) (lt_of_cell h2)).trans h2⟩

set_option maxRecDepth 100000 in
set_option maxHeartbeats 6400000 in
theorem read_four (s : ByteArray) (w : World) (hs : s.size < 4294967281) (hv : LibVars w) (h4 : (cutAt 46 s.data.toList).length = 4) :
    Calls Tryz.prog 32 #[.string s] w (AddrPost ((quadsFrom 0 (cutAt 46 s.data.toList)).map fun n => (0, 281470681743360 + n)) w) := by
  obtain ⟨m, hm⟩ := hv.len
  have hS := split_calls s 46 m (w.alloc (.cells #[.int .u64 0, .int .u64 0] 24)) hs (by rw [World.cell?_alloc_past _ _ _ (lt_of_cell hm)]; exact hm)
  have hl4 : (pieces 46 s).length = 4 := by rw [← h4, ← pieces_data]; simp
  rw [hl4] at hS
  have hq := fun w c => quads_calls (w.heap.size - 1) 0 c (pieces 46 s) hl4 (fun x hx => by have := pieces_size 46 s x hx; omega) w
  rw [pieces_data] at hq
  generalize hQ : (quadsFrom 0 (cutAt 46 s.data.toList)).map (fun n => (0, 281470681743360 + n)) = Q at hq ⊢
  obtain ⟨W, hW⟩ : ∃ W, W = (w.alloc (.cells #[.int .u64 0, .int .u64 0] 24)).alloc (.cells ((pieces 46 s).map Value.string).toArray 9) := ⟨_, rfl⟩
  rw [← hW] at hS
  have hq := hq W 4 (fun j x hj => by rw [hW]; simp [World.cell?_alloc_at, hj])
  have hsz : W.heap.size - 1 = w.heap.size + 1 := by rw [hW]; simp
  rw [hsz] at hq
  have hR : ResA w.heap.size W := by rw [hW]; exact (resA_new w 24).below (ba1 _ _)
  have hB : Below w.heap.size w W := by rw [hW]; exact ba (ba1 _ _) _
  have HS := Lib.hid hS
  have HQ := Lib.hid hq
  clear hS hq hW hQ hsz hm hv
  unfold AddrPost at HQ ⊢
  cases Q with
  | none =>
    have HQ : Hid (Calls Tryz.prog 47 #[.slice (some ⟨w.heap.size + 1, 0, none⟩) 4 4] W fun e w' => e = .returned (.tuple #[.agg #[.int .u64 0, .int .u64 0], .bool false]) ∧ Below W.heap.size W w') := HQ
    go_enter Tryz.func32, Tryz.ntmps32
    go_wp2_with (first | (go_at_call 46; refine HS.out.mono ?_; rintro e w1 ⟨rfl, hw1⟩; have hw2 := hw1.symm; clear hw1; subst hw2) | (go_at_call 47; refine HQ.out.mono ?_; rintro e w1 ⟨rfl, hb⟩; have hR1 := hR.below hb; obtain ⟨r0, r1, r2, r3⟩ := hR1))
    obtain ⟨s0, s1⟩ := resA_set (hR.below hb) 0 0
    have HB' := ResA.setBelow (bnext hB hb) (Nat.le_refl _) 0 0
    generalize (w1.setCell ⟨w.heap.size, 0, none⟩ (.int .u64 0)).setCell ⟨w.heap.size, 1, none⟩ (.int .u64 0) = W2 at s0 s1 HB' ⊢
    exact bodyPost_ret (v := .tuple #[.agg #[.int .u64 0, .int .u64 0], .bool false]) (by simp [results, Tryz.results32, go_sem, s0, s1]) rfl ⟨rfl, HB'⟩
  | some p =>
    obtain ⟨a0, ha0⟩ : ∃ a0 : Int, a0 = (p.1 : Int) := ⟨_, rfl⟩
    obtain ⟨a1, ha1⟩ : ∃ a1 : Int, a1 = (p.2 : Int) := ⟨_, rfl⟩
    have HQ : Hid (Calls Tryz.prog 47 #[.slice (some ⟨w.heap.size + 1, 0, none⟩) 4 4] W fun e w' => e = .returned (.tuple #[.agg #[.int .u64 a0, .int .u64 a1], .bool true]) ∧ Below W.heap.size W w') := by rw [ha0, ha1]; exact HQ
    simp only
    rw [← ha0, ← ha1]
    clear ha0 ha1
    go_enter Tryz.func32, Tryz.ntmps32
    go_wp2_with (first | (go_at_call 46; refine HS.out.mono ?_; rintro e w1 ⟨rfl, hw1⟩; have hw2 := hw1.symm; clear hw1; subst hw2) | (go_at_call 47; refine HQ.out.mono ?_; rintro e w1 ⟨rfl, hb⟩; have hR1 := hR.below hb; obtain ⟨r0, r1, r2, r3⟩ := hR1))
    obtain ⟨s0, s1⟩ := resA_set (hR.below hb) a0 a1
    have HB' := ResA.setBelow (bnext hB hb) (Nat.le_refl _) a0 a1
    generalize (w1.setCell ⟨w.heap.size, 0, none⟩ (.int .u64 a0)).setCell ⟨w.heap.size, 1, none⟩ (.int .u64 a1) = W2 at s0 s1 HB' ⊢
    exact bodyPost_ret (v := .tuple #[.agg #[.int .u64 a0, .int .u64 a1], .bool true]) (by simp [results, Tryz.results32, go_sem, s0, s1]) rfl ⟨rfl, HB'⟩
end Go.Proofs.YtgbkeciimddpnaaGreatDoor.Print
