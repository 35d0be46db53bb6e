/-
The walk of the reference's Parse: the address whose print a text is.
Conditions: none but that the text is one.
-/
import Derived.Test.YtgbkeciimddpnaaGreatDoorAddrGt
namespace Go.Proofs.YtgbkeciimddpnaaGreatDoor.Print
open Go Go.RowKit Go.Proofs.YtgbkeciimddpnaaGreatDoor.AddrP

set_option maxRecDepth 100000 in
set_option maxHeartbeats 3200000 in
theorem refParse_none (s : ByteArray) (q0 q1 : Int) (w : World) (hR : ∀ w1 : World, Calls Tryz.prog 37 #[.string s] w1 fun e w' => e = .returned (.tuple #[.agg #[.int .u64 q0, .int .u64 q1], .bool false]) ∧ Below w1.heap.size w1 w') (hs64 : (s.size : Int) ≤ 64) :
    Calls Tryz.prog 22 #[.string s] w fun e w' => e = .returned (.tuple #[.agg #[.int .u64 0, .int .u64 0], .int .i64 30]) ∧ Below w.heap.size w w' := by
  have HR := Lib.hid (hR (w.alloc (.cells #[.int .u64 0, .int .u64 0] 24)))
  clear hR
  go_enter Tryz.func22, Tryz.ntmps22
  go_wp2_with (go_at_call 37; refine HR.out.mono ?_; rintro e w1 ⟨rfl, hb⟩; have hR1 := (resA_new w 24).below hb; have hlt := lt_of_cell hR1.c0; obtain ⟨r0, r1, r2, r3⟩ := hR1)
  have hR2 := (resA_new w 24).below hb
  have hB2 := (ba1 w (.cells #[.int .u64 0, .int .u64 0] 24)).trans (hb.mono (by simp))
  obtain ⟨s0, s1⟩ := resA_set hR2 0 0
  have HB' := ResA.setBelow hB2 (Nat.le_refl _) 0 0
  have hs : ((w1.setCell ⟨w.heap.size, 0, none⟩ (.int .u64 0)).setCell ⟨w.heap.size, 1, none⟩ (.int .u64 0)).heap.size = w1.heap.size := by simp [World.setCell]
  generalize (w1.setCell ⟨w.heap.size, 0, none⟩ (.int .u64 0)).setCell ⟨w.heap.size, 1, none⟩ (.int .u64 0) = W2 at s0 s1 HB' hs ⊢
  have t0 : (W2.alloc (.cells #[.int .u64 q0, .int .u64 q1] 24)).cell? ⟨w.heap.size, 0, none⟩ = some (.int .u64 0) := by rw [World.cell?_alloc_past _ _ _ (by omega)]; exact s0
  have t1 : (W2.alloc (.cells #[.int .u64 q0, .int .u64 q1] 24)).cell? ⟨w.heap.size, 1, none⟩ = some (.int .u64 0) := by rw [World.cell?_alloc_past _ _ _ (by omega)]; exact s1
  have HB3 := ba HB' (.cells #[.int .u64 q0, .int .u64 q1] 24)
  generalize W2.alloc (.cells #[.int .u64 q0, .int .u64 q1] 24) = W3 at t0 t1 HB3 ⊢
  exact bodyPost_ret (v := .tuple #[.agg #[.int .u64 0, .int .u64 0], .int .i64 30]) (by simp [results, Tryz.results22, go_sem, t0, t1]) rfl ⟨rfl, HB3⟩

set_option maxRecDepth 100000 in
set_option maxHeartbeats 6400000 in
theorem refParse_same (s : ByteArray) (p0 p1 : Int) (w : World) (hR : ∀ w1 : World, Calls Tryz.prog 37 #[.string s] w1 fun e w' => e = .returned (.tuple #[.agg #[.int .u64 p0, .int .u64 p1], .bool true]) ∧ Below w1.heap.size w1 w')
    (hP : ∀ w1 : World, Calls Tryz.prog 28 #[.agg #[.int .u64 p0, .int .u64 p1]] w1 fun e w' => e = .returned (.string s) ∧ Below w1.heap.size w1 w') (hs64 : (s.size : Int) ≤ 64) :
    Calls Tryz.prog 22 #[.string s] w fun e w' => e = .returned (.tuple #[.agg #[.int .u64 p0, .int .u64 p1], .int .i64 0]) ∧ Below w.heap.size w w' := by
  have HR := Lib.hid (hR (w.alloc (.cells #[.int .u64 0, .int .u64 0] 24)))
  have HP := Lib.hid hP
  clear hR hP
  go_enter Tryz.func22, Tryz.ntmps22
  go_wp2_with (go_at_call 37; refine HR.out.mono ?_; rintro e w1 ⟨rfl, hb⟩; have hR1 := (resA_new w 24).below hb; have hlt := lt_of_cell hR1.c0; obtain ⟨r0, r1, r2, r3⟩ := hR1)
  have hR2 := ((resA_new w 24).below hb).below (ba1 w1 (.cells #[.int .u64 p0, .int .u64 p1] 24))
  have hB2 := ba ((ba1 w (.cells #[.int .u64 0, .int .u64 0] 24)).trans (hb.mono (by simp))) (.cells #[.int .u64 p0, .int .u64 p1] 24)
  have hx0 : (w1.alloc (.cells #[.int .u64 p0, .int .u64 p1] 24)).cell? ⟨w1.heap.size, 0, none⟩ = some (.int .u64 p0) := by go_simp
  have hx1 : (w1.alloc (.cells #[.int .u64 p0, .int .u64 p1] 24)).cell? ⟨w1.heap.size, 1, none⟩ = some (.int .u64 p1) := by go_simp
  have hPr := HP.out (w1.alloc (.cells #[.int .u64 p0, .int .u64 p1] 24))
  have hlt2 : w1.heap.size < (w1.alloc (.cells #[.int .u64 p0, .int .u64 p1] 24)).heap.size := by simp
  generalize w1.alloc (.cells #[.int .u64 p0, .int .u64 p1] 24) = w2 at hR2 hB2 hx0 hx1 hPr hlt2 ⊢
  have HPr := Lib.hid hPr
  clear r0 r1 r2 r3 hb hPr
  go_at_call 28
  refine HPr.out.mono ?_
  rintro e w3 ⟨rfl, hb3⟩
  have hR3 := hR2.below hb3
  have hB3 := bnext hB2 hb3
  have y0 : w3.cell? ⟨w1.heap.size, 0, none⟩ = some (.int .u64 p0) := (hb3.cell (p := ⟨w1.heap.size, 0, none⟩) hlt2).trans hx0
  have y1 : w3.cell? ⟨w1.heap.size, 1, none⟩ = some (.int .u64 p1) := (hb3.cell (p := ⟨w1.heap.size, 1, none⟩) hlt2).trans hx1
  clear hx0 hx1 hlt2 hR2 hB2 hb3
  have hR4 := hR3
  obtain ⟨r0, r1, r2, r3⟩ := hR4
  go_wp2_with fail
  obtain ⟨s0, s1⟩ := resA_set hR3 p0 p1
  have HB' := ResA.setBelow hB3 (Nat.le_refl _) p0 p1
  generalize (w3.setCell ⟨w.heap.size, 0, none⟩ (.int .u64 p0)).setCell ⟨w.heap.size, 1, none⟩ (.int .u64 p1) = W2 at s0 s1 HB' ⊢
  exact bodyPost_ret (v := .tuple #[.agg #[.int .u64 p0, .int .u64 p1], .int .i64 0]) (by simp [results, Tryz.results22, go_sem, s0, s1]) rfl ⟨rfl, HB'⟩

set_option maxRecDepth 100000 in
set_option maxHeartbeats 6400000 in
theorem refParse_other (s t : ByteArray) (p0 p1 : Int) (w : World) (hR : ∀ w1 : World, Calls Tryz.prog 37 #[.string s] w1 fun e w' => e = .returned (.tuple #[.agg #[.int .u64 p0, .int .u64 p1], .bool true]) ∧ Below w1.heap.size w1 w')
    (hP : ∀ w1 : World, Calls Tryz.prog 28 #[.agg #[.int .u64 p0, .int .u64 p1]] w1 fun e w' => e = .returned (.string t) ∧ Below w1.heap.size w1 w') (hs64 : (s.size : Int) ≤ 64) (hts : t ≠ s) :
    Calls Tryz.prog 22 #[.string s] w fun e w' => e = .returned (.tuple #[.agg #[.int .u64 0, .int .u64 0], .int .i64 30]) ∧ Below w.heap.size w w' := by
  have hne : (t.toList == s.toList) = false := by
    rw [beq_eq_false_iff_ne]
    intro e
    apply hts
    rw [← Lib.mk_data t, ← Lib.mk_data s, ← Lib.toList_data, ← Lib.toList_data, e]
  have hne' : (t.toList != s.toList) = true := by rw [bne, hne]; rfl
  have HR := Lib.hid (hR (w.alloc (.cells #[.int .u64 0, .int .u64 0] 24)))
  have HP := Lib.hid hP
  clear hR hP
  go_enter Tryz.func22, Tryz.ntmps22
  go_wp2_with (go_at_call 37; refine HR.out.mono ?_; rintro e w1 ⟨rfl, hb⟩; have hR1 := (resA_new w 24).below hb; have hlt := lt_of_cell hR1.c0; obtain ⟨r0, r1, r2, r3⟩ := hR1)
  have hR2 := ((resA_new w 24).below hb).below (ba1 w1 (.cells #[.int .u64 p0, .int .u64 p1] 24))
  have hB2 := ba ((ba1 w (.cells #[.int .u64 0, .int .u64 0] 24)).trans (hb.mono (by simp))) (.cells #[.int .u64 p0, .int .u64 p1] 24)
  have hx0 : (w1.alloc (.cells #[.int .u64 p0, .int .u64 p1] 24)).cell? ⟨w1.heap.size, 0, none⟩ = some (.int .u64 p0) := by go_simp
  have hx1 : (w1.alloc (.cells #[.int .u64 p0, .int .u64 p1] 24)).cell? ⟨w1.heap.size, 1, none⟩ = some (.int .u64 p1) := by go_simp
  have hPr := HP.out (w1.alloc (.cells #[.int .u64 p0, .int .u64 p1] 24))
  have hlt2 : w1.heap.size < (w1.alloc (.cells #[.int .u64 p0, .int .u64 p1] 24)).heap.size := by simp
  generalize w1.alloc (.cells #[.int .u64 p0, .int .u64 p1] 24) = w2 at hR2 hB2 hx0 hx1 hPr hlt2 ⊢
  have HPr := Lib.hid hPr
  clear r0 r1 r2 r3 hb hPr
  go_at_call 28
  refine HPr.out.mono ?_
  rintro e w3 ⟨rfl, hb3⟩
  have hR3 := hR2.below hb3
  have hB3 := bnext hB2 hb3
  have y0 : w3.cell? ⟨w1.heap.size, 0, none⟩ = some (.int .u64 p0) := (hb3.cell (p := ⟨w1.heap.size, 0, none⟩) hlt2).trans hx0
  have y1 : w3.cell? ⟨w1.heap.size, 1, none⟩ = some (.int .u64 p1) := (hb3.cell (p := ⟨w1.heap.size, 1, none⟩) hlt2).trans hx1
  clear hx0 hx1 hlt2 hR2 hB2 hb3
  have hR4 := hR3
  obtain ⟨r0, r1, r2, r3⟩ := hR4
  go_wp2_with fail
  obtain ⟨s0, s1⟩ := resA_set hR3 0 0
  have HB' := ResA.setBelow hB3 (Nat.le_refl _) 0 0
  generalize (w3.setCell ⟨w.heap.size, 0, none⟩ (.int .u64 0)).setCell ⟨w.heap.size, 1, none⟩ (.int .u64 0) = W2 at s0 s1 HB' ⊢
  exact bodyPost_ret (v := .tuple #[.agg #[.int .u64 0, .int .u64 0], .int .i64 30]) (by simp [results, Tryz.results22, go_sem, s0, s1]) rfl ⟨rfl, HB'⟩


set_option maxRecDepth 100000 in
set_option maxHeartbeats 3200000 in
theorem refParse_long (s : ByteArray) (h64 : (64 : Int) < (s.size : Int)) (w : World) :
    Calls Tryz.prog 22 #[.string s] w fun e w' => e = .returned (.tuple #[.agg #[.int .u64 0, .int .u64 0], .int .i64 30]) ∧ Below w.heap.size w w' := by
  have hR1 := resA_new w 24
  have hlt : w.heap.size < (w.alloc (.cells #[.int .u64 0, .int .u64 0] 24)).heap.size := by simp
  go_enter Tryz.func22, Tryz.ntmps22
  go_wp2_with fail
  exact bodyPost_ret (v := .tuple #[.agg #[.int .u64 0, .int .u64 0], .int .i64 30]) (by simp [results, Tryz.results22, go_sem]) rfl ⟨rfl, ba1 _ _⟩
theorem prA_len (hi lo : Nat) : (prA hi lo).length ≤ 64 := by
  unfold prA
  split
  · unfold pr4
    refine Nat.le_trans (join_len [46] _ 3 (fun x hx => ?_)) (by simp [four])
    obtain ⟨n, hn, rfl⟩ := List.mem_map.mp hx
    have h : n < 256 := by
      simp only [four, List.mem_cons, List.not_mem_nil, or_false] at hn
      omega
    exact digs_len (b := 10) (by omega) 2 n (by omega)
  · have hl := grp_le hi lo
    have h8 := grp_len hi lo
    generalize grp hi lo = g at hl h8
    have hh : ∀ l : List Nat, (∀ n ∈ l, n ≤ 65535) → (hexs l).length ≤ l.length * 5 := by
      intro l hb
      unfold hexs
      have := join_len [58] (l.map (digs 16)) 4 (fun x hx => by
        obtain ⟨n, hn, rfl⟩ := List.mem_map.mp hx
        exact digs_len (b := 16) (by omega) 3 n (by have := hb n hn; omega))
      simpa using this
    unfold pr6
    split
    · have := hh g hl; omega
    · have h1 := hh (g.take (best g).1) (fun n hn => hl n (List.mem_of_mem_take hn))
      have h2 := hh (g.drop ((best g).1 + (best g).2)) (fun n hn => hl n (List.mem_of_mem_drop hn))
      rw [List.length_take] at h1
      rw [List.length_drop] at h2
      simp only [List.length_append, List.length_cons, List.length_nil]
      omega
theorem guess_calls (s : ByteArray) (hs : s.size ≤ 64) (w : World) (x y : Int) (b : Bool) (h : guessI s.data.toList = (x, y, b)) : Calls Tryz.prog 37 #[.string s] w fun e w' => e = .returned (.tuple #[.agg #[.int .u64 x, .int .u64 y], .bool b]) ∧ Below w.heap.size w w' :=
  sallyportref03_guess.calls 2600 s x y b w (by rw [guess_is s hs 2600 (Nat.le_refl _), h])
theorem guessI_nat (s : List UInt8) : ∃ (p : Nat × Nat) (b : Bool), guessI s = ((p.1 : Int), (p.2 : Int), b) ∧ p.1 < 18446744073709551616 ∧ p.2 < 18446744073709551616 := by
  unfold guessI
  split
  · next h4 =>
    cases hq : quadsFrom 0 (cutAt 46 s) with
    | none => exact ⟨(0, 0), false, rfl, by decide, by decide⟩
    | some n =>
      have := quadsFrom_lt _ 0 n 0 hq (by simp)
      rw [h4] at this
      have e : (256 : Nat) ^ (0 + 4) = 4294967296 := by decide
      rw [e] at this
      exact ⟨(0, 281470681743360 + n), true, rfl, by show (0 : Nat) < _; decide, by show 281470681743360 + n < _; omega⟩
  · split
    · obtain ⟨h1, h2⟩ := rgP_lt s
      exact ⟨rgP s, _, rfl, h1, h2⟩
    · next q _ =>
      unfold guess2
      split
      · obtain ⟨l1, l2⟩ := rgP_lt q.1
        obtain ⟨l3, l4⟩ := rgP_lt q.2
        obtain ⟨l5, l6⟩ := shift0_lt (8 - rgC q.1) (rgP q.1) l1 l2
        generalize shift0 (8 - rgC q.1) (rgP q.1) = x at l5 l6
        generalize rgP q.2 = y at l3 l4
        refine ⟨(x.1 ||| y.1, x.2 ||| y.2), true, ?_, ?_, ?_⟩
        · unfold orHL
          rw [bits_or_u64_nat _ _ l5 l3, bits_or_u64_nat _ _ l6 l4]
        · exact Nat.or_lt_two_pow (n := 64) (by simpa using l5) (by simpa using l3)
        · exact Nat.or_lt_two_pow (n := 64) (by simpa using l6) (by simpa using l4)
      · exact ⟨(0, 0), false, rfl, by decide, by decide⟩
theorem parseL_lt (s : List UInt8) (p : Nat × Nat) (h : parseL s = some p) : p.1 < 18446744073709551616 ∧ p.2 < 18446744073709551616 ∧ prA p.1 p.2 = s := by
  have h2 := parseL_some s p h
  unfold parseL at h
  cases hr : readL s with
  | none => rw [hr] at h; cases h
  | some q =>
    rw [hr] at h
    simp only at h
    split at h
    · obtain rfl := Option.some.inj h
      obtain ⟨a, b⟩ := readL_lt s q hr
      exact ⟨a, b, h2⟩
    · cases h
/-- The reference's Parse. -/
theorem refParse_calls (s : ByteArray) (w : World) : Calls Tryz.prog 22 #[.string s] w (ParsePost (parseL s.data.toList) w) := by
  have hz : s.data.toList.length = s.size := (Lib.size_eq s).symm
  unfold ParsePost
  by_cases h64 : s.size ≤ 64
  · obtain ⟨p, b, hg, l1, l2⟩ := guessI_nat s.data.toList
    have hR := fun w1 => guess_calls s h64 w1 p.1 p.2 b hg
    have key : parseL s.data.toList = if b = true ∧ prA p.1 p.2 = s.data.toList then some p else none := by
      cases hp : parseL s.data.toList with
      | none =>
        by_cases hc : b = true ∧ prA p.1 p.2 = s.data.toList
        · rw [← hc.2, parseL_prA p.1 p.2 l1 l2] at hp; cases hp
        · rw [if_neg hc]
      | some q =>
        obtain ⟨a1, a2, a3⟩ := parseL_lt _ q hp
        have := guessI_prA q.1 q.2 a1 a2
        rw [a3, hg] at this
        simp only [Prod.mk.injEq] at this
        obtain ⟨t1, t2, t3⟩ := this
        have hpq : p = q := by
          apply Prod.ext
          · omega
          · omega
        rw [hpq, if_pos ⟨t3, a3⟩]
    rw [key]
    cases b with
    | false =>
      rw [if_neg (by simp)]
      exact refParse_none s _ _ w hR (by omega)
    | true =>
      by_cases he : prA p.1 p.2 = s.data.toList
      · rw [if_pos ⟨rfl, he⟩]
        have e : mkB (prA p.1 p.2) = s := by rw [← Lib.mk_data s, he]; rfl
        have hP := fun w1 => refPrint_calls p.1 p.2 l1 l2 w1
        rw [e] at hP
        exact refParse_same s p.1 p.2 w hR hP (by omega)
      · rw [if_neg (fun h => he h.2)]
        exact refParse_other s _ p.1 p.2 w hR (fun w1 => refPrint_calls p.1 p.2 l1 l2 w1) (by omega) (fun e => he (by rw [← e]; rfl))
  · have : parseL s.data.toList = none := by
      cases hp : parseL s.data.toList with
      | none => rfl
      | some q =>
        obtain ⟨_, _, a3⟩ := parseL_lt _ q hp
        have := prA_len q.1 q.2
        rw [a3] at this
        omega
    rw [this]
    exact refParse_long s (by omega) w
end Go.Proofs.YtgbkeciimddpnaaGreatDoor.Print
