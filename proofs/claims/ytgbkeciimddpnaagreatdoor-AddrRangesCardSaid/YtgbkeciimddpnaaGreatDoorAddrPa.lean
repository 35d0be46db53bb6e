/-
The walk of addr.Parse: the address whose print a text is.
Conditions: texts shorter than 4294967281 bytes; the library's variables hold what they hold.
-/
import Derived.Test.YtgbkeciimddpnaaGreatDoorAddrR3
import Derived.Test.YtgbkeciimddpnaaGreatDoorAddrPr
namespace Go.Proofs.YtgbkeciimddpnaaGreatDoor.Print
open Go Go.RowKit Go.Proofs.YtgbkeciimddpnaaGreatDoor.AddrP

theorem quadsFrom_lt : ∀ (l : List (List UInt8)) (n m k : Nat), quadsFrom n l = some m → n < 256 ^ k → m < 256 ^ (k + l.length)
  | [], n, m, k, h, hn => by
    simp only [quadsFrom, Option.some.injEq] at h
    subst h; exact hn
  | w :: l, n, m, k, h, hn => by
    rw [quadsFrom_cons] at h
    cases hv : numL w with
    | none => rw [hv] at h; cases h
    | some v =>
      rw [hv] at h
      simp only at h
      split at h
      · cases h
      · have := quadsFrom_lt l _ m (k + 1) h (by rw [Nat.pow_succ]; omega)
        rw [List.length_cons, show k + (l.length + 1) = k + 1 + l.length by omega]
        exact this
theorem join4_lt (l : List Nat) (h : l.length = 4) (hb : ∀ n ∈ l, n ≤ 65535) : join4 l < 18446744073709551616 := by
  match l, h with
  | [a, b, c, d], _ =>
    have h1 := hb a (by simp)
    have h2 := hb b (by simp)
    have h3 := hb c (by simp)
    have h4 := hb d (by simp)
    simp only [join4, List.foldl_cons, List.foldl_nil]
    omega
theorem read6_lt (a b : List UInt8) (short : Bool) (p : Nat × Nat) (h : read6 a b short = some p) : p.1 < 18446744073709551616 ∧ p.2 < 18446744073709551616 := by
  unfold read6 at h
  cases hx : wordsL a with
  | none => rw [hx] at h; cases h
  | some x =>
    rw [hx] at h
    cases hy : wordsL b with
    | none => rw [hy] at h; cases h
    | some y =>
      rw [hy] at h
      simp only at h
      split at h
      · cases h
      · next hn =>
        obtain rfl := Option.some.inj h
        obtain ⟨lx, bx⟩ := wordsL_le _ _ hx
        obtain ⟨ly, bY⟩ := wordsL_le _ _ hy
        have hF : (fill x y).length = 8 := by
          unfold fill
          have : ¬ 8 < x.length + y.length := fun e => hn (Or.inl e)
          simp; omega
        have hFb : ∀ n ∈ fill x y, n ≤ 65535 := by
          intro n hn'
          unfold fill at hn'
          simp only [List.mem_append, List.mem_replicate] at hn'
          rcases hn' with (hn' | ⟨_, rfl⟩) | hn'
          · exact bx n hn'
          · omega
          · exact bY n hn'
        exact ⟨join4_lt _ (by rw [List.length_take]; omega) (fun n hn => hFb n (List.mem_of_mem_take hn)), join4_lt _ (by rw [List.length_drop]; omega) (fun n hn => hFb n (List.mem_of_mem_drop hn))⟩
theorem readL_lt (s : List UInt8) (p : Nat × Nat) (h : readL s = some p) : p.1 < 18446744073709551616 ∧ p.2 < 18446744073709551616 := by
  unfold readL at h
  split at h
  · next h4 =>
    cases hq : quadsFrom 0 (cutAt 46 s) with
    | none => rw [hq] at h; cases h
    | some n =>
      rw [hq] at h
      obtain rfl := Option.some.inj h
      have := quadsFrom_lt _ 0 n 0 hq (by simp)
      rw [h4] at this
      have e : (256 : Nat) ^ (0 + 4) = 4294967296 := by decide
      exact ⟨by show (0 : Nat) < _; decide, by show 281470681743360 + n < _; omega⟩
  · split at h
    · exact read6_lt _ _ _ p h
    · exact read6_lt _ _ _ p h

/-- What Parse hands back. -/
def ParsePost (r : Option (Nat × Nat)) (w : World) (e : Ending) (w' : World) : Prop := (match r with
  | some p => e = .returned (.tuple #[.agg #[.int .u64 p.1, .int .u64 p.2], .int .i64 0])
  | none => e = .returned (.tuple #[.agg #[.int .u64 0, .int .u64 0], .int .i64 30])) ∧ Below w.heap.size w w'

set_option maxRecDepth 100000 in
set_option maxHeartbeats 3200000 in
theorem parse_none (s : ByteArray) (w : World) (hR : ∀ w1, LibVars w1 → Calls Tryz.prog 32 #[.string s] w1 fun e w' => e = .returned (.tuple #[.agg #[.int .u64 0, .int .u64 0], .bool false]) ∧ Below w1.heap.size w1 w') (hv : LibVars w) :
    Calls Tryz.prog 18 #[.string s] w fun e w' => e = .returned (.tuple #[.agg #[.int .u64 0, .int .u64 0], .int .i64 30]) ∧ Below w.heap.size w w' := by
  have HR := Lib.hid (hR _ (hv.below (ba1 w (.cells #[.int .u64 0, .int .u64 0] 24))))
  clear hR hv
  go_enter Tryz.func18, Tryz.ntmps18
  go_wp2_with (go_at_call 32; refine HR.out.mono ?_; rintro e w1 ⟨rfl, hb⟩; have hR1 := (resA_new w 24).below hb; have hlt := lt_of_cell hR1.c0; obtain ⟨r0, r1, r2, r3⟩ := hR1)
  have hR2 := (resA_new w 24).below hb
  have hB2 := (ba1 w (.cells #[.int .u64 0, .int .u64 0] 24)).trans (hb.mono (by simp))
  obtain ⟨s0, s1⟩ := resA_set hR2 0 0
  have HB' := ResA.setBelow hB2 (Nat.le_refl _) 0 0
  have hs : ((w1.setCell ⟨w.heap.size, 0, none⟩ (.int .u64 0)).setCell ⟨w.heap.size, 1, none⟩ (.int .u64 0)).heap.size = w1.heap.size := by simp [World.setCell]
  generalize (w1.setCell ⟨w.heap.size, 0, none⟩ (.int .u64 0)).setCell ⟨w.heap.size, 1, none⟩ (.int .u64 0) = W2 at s0 s1 HB' hs ⊢
  have t0 : (W2.alloc (.cells #[.int .u64 0, .int .u64 0] 24)).cell? ⟨w.heap.size, 0, none⟩ = some (.int .u64 0) := by rw [World.cell?_alloc_past _ _ _ (by omega)]; exact s0
  have t1 : (W2.alloc (.cells #[.int .u64 0, .int .u64 0] 24)).cell? ⟨w.heap.size, 1, none⟩ = some (.int .u64 0) := by rw [World.cell?_alloc_past _ _ _ (by omega)]; exact s1
  have HB3 := ba HB' (.cells #[.int .u64 0, .int .u64 0] 24)
  generalize W2.alloc (.cells #[.int .u64 0, .int .u64 0] 24) = W3 at t0 t1 HB3 ⊢
  exact bodyPost_ret (v := .tuple #[.agg #[.int .u64 0, .int .u64 0], .int .i64 30]) (by simp [results, Tryz.results18, go_sem, t0, t1]) rfl ⟨rfl, HB3⟩

set_option maxRecDepth 100000 in
set_option maxHeartbeats 6400000 in
theorem parse_same (s : ByteArray) (p0 p1 : Int) (w : World) (hR : ∀ w1, LibVars w1 → Calls Tryz.prog 32 #[.string s] w1 fun e w' => e = .returned (.tuple #[.agg #[.int .u64 p0, .int .u64 p1], .bool true]) ∧ Below w1.heap.size w1 w')
    (hP : ∀ w1, PrVars w1 → Calls Tryz.prog 25 #[.agg #[.int .u64 p0, .int .u64 p1]] w1 fun e w' => e = .returned (.string s) ∧ Below w1.heap.size w1 w') (hv : LibVars w) (hp : PrVars w) :
    Calls Tryz.prog 18 #[.string s] w fun e w' => e = .returned (.tuple #[.agg #[.int .u64 p0, .int .u64 p1], .int .i64 0]) ∧ Below w.heap.size w w' := by
  have HR := Lib.hid (hR _ (hv.below (ba1 w (.cells #[.int .u64 0, .int .u64 0] 24))))
  have HP := Lib.hid hP
  have HV := Lib.hid hp
  clear hR hv hP hp
  go_enter Tryz.func18, Tryz.ntmps18
  go_wp2_with (go_at_call 32; refine HR.out.mono ?_; rintro e w1 ⟨rfl, hb⟩; have hR1 := (resA_new w 24).below hb; have hlt := lt_of_cell hR1.c0; obtain ⟨r0, r1, r2, r3⟩ := hR1)
  have hR2 := ((resA_new w 24).below hb).below (ba1 w1 (.cells #[.int .u64 p0, .int .u64 p1] 24))
  have hB2 := ba ((ba1 w (.cells #[.int .u64 0, .int .u64 0] 24)).trans (hb.mono (by simp))) (.cells #[.int .u64 p0, .int .u64 p1] 24)
  have hx0 : (w1.alloc (.cells #[.int .u64 p0, .int .u64 p1] 24)).cell? ⟨w1.heap.size, 0, none⟩ = some (.int .u64 p0) := by go_simp
  have hx1 : (w1.alloc (.cells #[.int .u64 p0, .int .u64 p1] 24)).cell? ⟨w1.heap.size, 1, none⟩ = some (.int .u64 p1) := by go_simp
  have hPr := HP.out _ (HV.out.below hB2)
  have hlt2 : w1.heap.size < (w1.alloc (.cells #[.int .u64 p0, .int .u64 p1] 24)).heap.size := by simp
  generalize w1.alloc (.cells #[.int .u64 p0, .int .u64 p1] 24) = w2 at hR2 hB2 hx0 hx1 hPr hlt2 ⊢
  have HPr := Lib.hid hPr
  clear r0 r1 r2 r3 hb hPr
  go_at_call 25
  refine HPr.out.mono ?_
  rintro e w3 ⟨rfl, hb3⟩
  have hR3 := hR2.below hb3
  have hB3 := bnext hB2 hb3
  have y0 : w3.cell? ⟨w1.heap.size, 0, none⟩ = some (.int .u64 p0) := (hb3.cell (p := ⟨w1.heap.size, 0, none⟩) hlt2).trans hx0
  have y1 : w3.cell? ⟨w1.heap.size, 1, none⟩ = some (.int .u64 p1) := (hb3.cell (p := ⟨w1.heap.size, 1, none⟩) hlt2).trans hx1
  clear hx0 hx1 hlt2 hR2 hB2 hb3
  have hR4 := hR3
  obtain ⟨r0, r1, r2, r3⟩ := hR4
  go_wp2_with fail
  obtain ⟨s0, s1⟩ := resA_set hR3 p0 p1
  have HB' := ResA.setBelow hB3 (Nat.le_refl _) p0 p1
  generalize (w3.setCell ⟨w.heap.size, 0, none⟩ (.int .u64 p0)).setCell ⟨w.heap.size, 1, none⟩ (.int .u64 p1) = W2 at s0 s1 HB' ⊢
  exact bodyPost_ret (v := .tuple #[.agg #[.int .u64 p0, .int .u64 p1], .int .i64 0]) (by simp [results, Tryz.results18, go_sem, s0, s1]) rfl ⟨rfl, HB'⟩

set_option maxRecDepth 100000 in
set_option maxHeartbeats 6400000 in
theorem parse_other (s t : ByteArray) (p0 p1 : Int) (w : World) (hR : ∀ w1, LibVars w1 → Calls Tryz.prog 32 #[.string s] w1 fun e w' => e = .returned (.tuple #[.agg #[.int .u64 p0, .int .u64 p1], .bool true]) ∧ Below w1.heap.size w1 w')
    (hP : ∀ w1, PrVars w1 → Calls Tryz.prog 25 #[.agg #[.int .u64 p0, .int .u64 p1]] w1 fun e w' => e = .returned (.string t) ∧ Below w1.heap.size w1 w') (hv : LibVars w) (hp : PrVars w) (hts : t ≠ s) :
    Calls Tryz.prog 18 #[.string s] w fun e w' => e = .returned (.tuple #[.agg #[.int .u64 0, .int .u64 0], .int .i64 30]) ∧ Below w.heap.size w w' := by
  have hne : (t.toList == s.toList) = false := by
    rw [beq_eq_false_iff_ne]
    intro e
    apply hts
    rw [← Lib.mk_data t, ← Lib.mk_data s, ← Lib.toList_data, ← Lib.toList_data, e]
  have hne' : (t.toList != s.toList) = true := by rw [bne, hne]; rfl
  have HR := Lib.hid (hR _ (hv.below (ba1 w (.cells #[.int .u64 0, .int .u64 0] 24))))
  have HP := Lib.hid hP
  have HV := Lib.hid hp
  clear hR hv hP hp
  go_enter Tryz.func18, Tryz.ntmps18
  go_wp2_with (go_at_call 32; refine HR.out.mono ?_; rintro e w1 ⟨rfl, hb⟩; have hR1 := (resA_new w 24).below hb; have hlt := lt_of_cell hR1.c0; obtain ⟨r0, r1, r2, r3⟩ := hR1)
  have hR2 := ((resA_new w 24).below hb).below (ba1 w1 (.cells #[.int .u64 p0, .int .u64 p1] 24))
  have hB2 := ba ((ba1 w (.cells #[.int .u64 0, .int .u64 0] 24)).trans (hb.mono (by simp))) (.cells #[.int .u64 p0, .int .u64 p1] 24)
  have hx0 : (w1.alloc (.cells #[.int .u64 p0, .int .u64 p1] 24)).cell? ⟨w1.heap.size, 0, none⟩ = some (.int .u64 p0) := by go_simp
  have hx1 : (w1.alloc (.cells #[.int .u64 p0, .int .u64 p1] 24)).cell? ⟨w1.heap.size, 1, none⟩ = some (.int .u64 p1) := by go_simp
  have hPr := HP.out _ (HV.out.below hB2)
  have hlt2 : w1.heap.size < (w1.alloc (.cells #[.int .u64 p0, .int .u64 p1] 24)).heap.size := by simp
  generalize w1.alloc (.cells #[.int .u64 p0, .int .u64 p1] 24) = w2 at hR2 hB2 hx0 hx1 hPr hlt2 ⊢
  have HPr := Lib.hid hPr
  clear r0 r1 r2 r3 hb hPr
  go_at_call 25
  refine HPr.out.mono ?_
  rintro e w3 ⟨rfl, hb3⟩
  have hR3 := hR2.below hb3
  have hB3 := bnext hB2 hb3
  have y0 : w3.cell? ⟨w1.heap.size, 0, none⟩ = some (.int .u64 p0) := (hb3.cell (p := ⟨w1.heap.size, 0, none⟩) hlt2).trans hx0
  have y1 : w3.cell? ⟨w1.heap.size, 1, none⟩ = some (.int .u64 p1) := (hb3.cell (p := ⟨w1.heap.size, 1, none⟩) hlt2).trans hx1
  clear hx0 hx1 hlt2 hR2 hB2 hb3
  have hR4 := hR3
  obtain ⟨r0, r1, r2, r3⟩ := hR4
  go_wp2_with fail
  obtain ⟨s0, s1⟩ := resA_set hR3 0 0
  have HB' := ResA.setBelow hB3 (Nat.le_refl _) 0 0
  generalize (w3.setCell ⟨w.heap.size, 0, none⟩ (.int .u64 0)).setCell ⟨w.heap.size, 1, none⟩ (.int .u64 0) = W2 at s0 s1 HB' ⊢
  exact bodyPost_ret (v := .tuple #[.agg #[.int .u64 0, .int .u64 0], .int .i64 30]) (by simp [results, Tryz.results18, go_sem, s0, s1]) rfl ⟨rfl, HB'⟩

theorem parse_calls (s : ByteArray) (w : World) (hs : s.size < 4294967281) (hv : LibVars w) (hp : PrVars w) : Calls Tryz.prog 18 #[.string s] w (ParsePost (parseL s.data.toList) w) := by
  have hr := fun w1 (h : LibVars w1) => read_calls s w1 hs h
  unfold parseL ParsePost
  unfold AddrPost at hr
  cases hq : readL s.data.toList with
  | none =>
    rw [hq] at hr
    exact parse_none s w hr hv
  | some p =>
    rw [hq] at hr
    obtain ⟨l1, l2⟩ := readL_lt _ _ hq
    simp only
    by_cases he : prA p.1 p.2 = s.data.toList
    · rw [if_pos he]
      have e : mkB (prA p.1 p.2) = s := by rw [← Lib.mk_data s, he]; rfl
      have hP := fun w1 (h : PrVars w1) => print_calls p.1 p.2 l1 l2 w1 h
      rw [e] at hP
      exact parse_same s p.1 p.2 w hr hP hv hp
    · rw [if_neg he]
      exact parse_other s _ p.1 p.2 w hr (fun w1 (h : PrVars w1) => print_calls p.1 p.2 l1 l2 w1 h) hv hp (fun e => he (by rw [← e]; rfl))
end Go.Proofs.YtgbkeciimddpnaaGreatDoor.Print
