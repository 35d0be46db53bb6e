/-
The walk of addr.read where the text is no four words: the groups ahead of the first double colon and behind it; the ways that end with none.
Conditions: texts shorter than 4294967281 bytes; the library's variables hold what they hold.
-/
import Derived.Test.YtgbkeciimddpnaaGreatDoorAddrR
namespace Go.Proofs.YtgbkeciimddpnaaGreatDoor.Print
open Go Go.RowKit Go.Proofs.YtgbkeciimddpnaaGreatDoor.AddrP

theorem slice_tail (g ny : Nat) (hy : ny ≤ 8) : ∃ o, (0 < ny → o = 8 - ny) ∧ ∀ W, (Instr.sliceAt 63 (.pointer (some ⟨g, 0, none⟩)) (some (.int .i64 (8 - (ny : Int)))) none none).run Tryz.prog W = .ok (.slice (some ⟨g, o, none⟩) ny ny) W := by
  have hal : Tryz.prog.arrayLen 63 = 8 := by simp [Program.arrayLen, Tryz.underlying63]
  by_cases h : ny = 0
  · subst h
    refine ⟨0, fun h => absurd h (by omega), fun W => ?_⟩
    rw [run_sliceAt_array_l W 63 ⟨g, 0, none⟩ (by simp [Program.arrayLen, Program.elem, Tryz.underlying63]) .i64 (8 - ((0 : Nat) : Int)) (by omega) (by rw [hal]; omega)]
    go_simp
  · refine ⟨8 - ny, fun _ => rfl, fun W => ?_⟩
    rw [run_sliceAt_array_l W 63 ⟨g, 0, none⟩ (by simp [Program.arrayLen, Program.elem, Tryz.underlying63]) .i64 (8 - (ny : Int)) (by omega) (by rw [hal]; omega)]
    have e : (8 - (ny : Int)).toNat = 8 - ny := by omega
    go_simp
    omega
def zero8 : List Value := [.int .u16 0, .int .u16 0, .int .u16 0, .int .u16 0, .int .u16 0, .int .u16 0, .int .u16 0, .int .u16 0]
def vals (l : List Nat) : List Value := l.map fun x : Nat => Value.int .u16 (x : Int)
theorem splice_fill (x y : List Nat) (h : x.length + y.length ≤ 8) : splice (splice zero8 0 (vals x)) (8 - y.length) (vals y) = vals (fill x y) := by
  have hz : zero8 = List.replicate 8 (.int .u16 0) := rfl
  have l1 : (vals x).length = x.length := by simp [vals]
  have l2 : (vals y).length = y.length := by simp [vals]
  have e1 : splice zero8 0 (vals x) = vals x ++ List.replicate (8 - x.length) (.int .u16 0) := by
    unfold splice
    rw [hz, l1]
    simp only [List.take_zero, List.nil_append, Nat.zero_add, List.drop_replicate]
  rw [e1]
  unfold splice
  rw [l2, List.take_append, List.take_of_length_le (by omega), l1, List.take_replicate, List.drop_of_length_le (by simp [l1]; omega), List.append_nil, show min (8 - y.length - x.length) (8 - x.length) = 8 - x.length - y.length by omega]
  unfold fill vals
  simp

def WordsAny (w : World) (e : Ending) (w' : World) : Prop := (∃ (A : Option Addr) (n cap : Nat) (ok : Bool), e = .returned (.tuple #[.slice A n cap, .bool ok])) ∧ Below w.heap.size w w'
theorem words_any (s : ByteArray) (m : Int) (w : World) (hs : s.size < 4294967281) (hm : w.cell? ⟨0, 0, none⟩ = some (.int .i64 m)) (hv : ErrVars w) : Calls Tryz.prog 49 #[.string s] w (WordsAny w) := by
  refine (words_calls s m w hs hm hv).mono fun e w' h => ?_
  unfold WordsPost at h
  unfold WordsAny
  obtain ⟨h1, h2⟩ := h
  refine ⟨?_, h2⟩
  cases hr : wordsL s.data.toList with
  | none => rw [hr] at h1; exact ⟨_, _, _, _, h1⟩
  | some xs =>
    rw [hr] at h1
    obtain ⟨v, h3, h4⟩ := h1
    obtain ⟨A, cap, rfl, _⟩ := row16_of h4
    exact ⟨_, _, _, _, h3⟩
theorem words_none (s : ByteArray) (m : Int) (w : World) (hs : s.size < 4294967281) (hm : w.cell? ⟨0, 0, none⟩ = some (.int .i64 m)) (hv : ErrVars w) (hr : wordsL s.data.toList = none) :
    Calls Tryz.prog 49 #[.string s] w fun e w' => e = .returned (.tuple #[.slice none 0 0, .bool false]) ∧ Below w.heap.size w w' := by
  refine (words_calls s m w hs hm hv).mono fun e w' h => ?_
  unfold WordsPost at h
  rw [hr] at h
  exact h
def WordsIs (xs : List Nat) (w : World) (e : Ending) (w' : World) : Prop := (∃ (A : Option Addr) (cap : Nat), e = .returned (.tuple #[.slice A xs.length cap, .bool true]) ∧ Row16 A cap xs w.heap.size w') ∧ Below w.heap.size w w'
theorem words_is (s : ByteArray) (m : Int) (w : World) (hs : s.size < 4294967281) (hm : w.cell? ⟨0, 0, none⟩ = some (.int .i64 m)) (hv : ErrVars w) (xs : List Nat) (hr : wordsL s.data.toList = some xs) : Calls Tryz.prog 49 #[.string s] w (WordsIs xs w) := by
  refine (words_calls s m w hs hm hv).mono fun e w' h => ?_
  unfold WordsPost at h
  rw [hr] at h
  obtain ⟨⟨v, h3, h4⟩, h2⟩ := h
  obtain ⟨A, cap, rfl, h5⟩ := row16_of h4
  exact ⟨⟨A, cap, h3, h5⟩, h2⟩

/-- How far read comes ahead of the words: the cut is made. -/
structure Cutted (s a b : ByteArray) (short : Bool) (w : World) : Prop where
  one : ((((pieces 46 s).length : Int) == 4)) = false
  cut : ∀ w1 : World, LibVars w1 → Calls Tryz.prog 48 #[.string s, .string ⟨#[58, 58]⟩] w1 fun e w' => e = .returned (.tuple #[.string a, .string b, .bool short]) ∧ Below w1.heap.size w1 w'
  split : Calls Tryz.prog 46 #[.string s, .string ⟨#[46]⟩] (w.alloc (.cells #[.int .u64 0, .int .u64 0] 24)) fun e w' => e = .returned (.slice (some ⟨w.heap.size + 1, 0, none⟩) (pieces 46 s).length (pieces 46 s).length) ∧ Below (w.heap.size + 1) (w.alloc (.cells #[.int .u64 0, .int .u64 0] 24)) w'
  vars : LibVars w
  asz : a.size < 4294967281
  bsz : b.size < 4294967281

set_option maxRecDepth 100000 in
set_option maxHeartbeats 6400000 in
theorem read_badA (s a b : ByteArray) (short : Bool) (w : World) (hC : Cutted s a b short w) (ha : wordsL a.data.toList = none) :
    Calls Tryz.prog 32 #[.string s] w (AddrPost none w) := by
  have h1 := hC.one
  have hlim : ((pieces 46 s).length : Int) = ((pieces 46 s).length : Int) := rfl
  have HC := Lib.hid hC
  have HA := Lib.hid ha
  clear hC ha hlim
  go_enter Tryz.func32, Tryz.ntmps32
  go_wp2_with (go_at_call 46; refine HC.out.split.mono ?_; rintro e w1 ⟨rfl, hb1⟩)
  have hb1' : Below (w.alloc (.cells #[.int .u64 0, .int .u64 0] 24)).heap.size (w.alloc (.cells #[.int .u64 0, .int .u64 0] 24)) w1 := by rw [World.size_alloc]; exact hb1
  have hR1 := (resA_new w 24).below hb1'
  have hB1 := (ba1 w (.cells #[.int .u64 0, .int .u64 0] 24)).trans (hb1'.mono (by simp))
  have hV1 := HC.out.vars.below hB1
  clear hb1 hb1'
  go_at_call 48
  refine (HC.out.cut w1 hV1).mono ?_
  rintro e w2 ⟨rfl, hb2⟩
  have hR2 := hR1.below hb2
  have hB2 := bnext hB1 hb2
  have hV2 := hV1.below hb2
  clear hR1 hB1 hV1 hb2
  go_wp2_with fail
  obtain ⟨m, hm⟩ := hV2.len
  refine (words_none a m _ HC.out.asz hm hV2.err HA.out).mono ?_
  rintro e w3 ⟨rfl, hb3⟩
  have hR3 := hR2.below hb3
  have hB3 := bnext hB2 hb3
  have hV3 := hV2.below hb3
  clear hR2 hB2 hV2 hb3 hm
  go_wp2_with fail
  obtain ⟨m, hm⟩ := hV3.len
  refine (words_any b m _ HC.out.bsz hm hV3.err).mono ?_
  rintro e w4 ⟨⟨A, n, cap, ok, rfl⟩, hb4⟩
  have hR4 := hR3.below hb4
  have hB4 := bnext hB3 hb4
  have hR4' := hR4
  obtain ⟨r0, r1, r2, r3⟩ := hR4'
  clear hR3 hB3 hV3 hm
  go_wp2_with fail
  obtain ⟨s0, s1⟩ := resA_set hR4 0 0
  have HB' := ResA.setBelow hB4 (Nat.le_refl _) 0 0
  generalize (w4.setCell ⟨w.heap.size, 0, none⟩ (.int .u64 0)).setCell ⟨w.heap.size, 1, none⟩ (.int .u64 0) = W2 at s0 s1 HB' ⊢
  exact bodyPost_ret (v := .tuple #[.agg #[.int .u64 0, .int .u64 0], .bool false]) (by simp [results, Tryz.results32, go_sem, s0, s1]) rfl ⟨rfl, HB'⟩

set_option maxRecDepth 100000 in
set_option maxHeartbeats 6400000 in
theorem read_badB (s a b : ByteArray) (short : Bool) (w : World) (hC : Cutted s a b short w) (x : List Nat) (ha : wordsL a.data.toList = some x) (hb : wordsL b.data.toList = none) :
    Calls Tryz.prog 32 #[.string s] w (AddrPost none w) := by
  have h1 := hC.one
  have HC := Lib.hid hC
  have HA := Lib.hid ha
  have HBN := Lib.hid hb
  clear hC ha hb
  go_enter Tryz.func32, Tryz.ntmps32
  go_wp2_with (go_at_call 46; refine HC.out.split.mono ?_; rintro e w1 ⟨rfl, hb1⟩)
  have hb1' : Below (w.alloc (.cells #[.int .u64 0, .int .u64 0] 24)).heap.size (w.alloc (.cells #[.int .u64 0, .int .u64 0] 24)) w1 := by rw [World.size_alloc]; exact hb1
  have hR1 := (resA_new w 24).below hb1'
  have hB1 := (ba1 w (.cells #[.int .u64 0, .int .u64 0] 24)).trans (hb1'.mono (by simp))
  have hV1 := HC.out.vars.below hB1
  clear hb1 hb1'
  go_at_call 48
  refine (HC.out.cut w1 hV1).mono ?_
  rintro e w2 ⟨rfl, hb2⟩
  have hR2 := hR1.below hb2
  have hB2 := bnext hB1 hb2
  have hV2 := hV1.below hb2
  clear hR1 hB1 hV1 hb2
  go_wp2_with fail
  obtain ⟨m, hm⟩ := hV2.len
  refine (words_is a m _ HC.out.asz hm hV2.err x HA.out).mono ?_
  rintro e w3 ⟨⟨A, cap, rfl, hrow⟩, hb3⟩
  have hR3 := hR2.below hb3
  have hB3 := bnext hB2 hb3
  have hV3 := hV2.below hb3
  clear hR2 hB2 hV2 hb3 hm hrow
  go_wp2_with fail
  obtain ⟨m, hm⟩ := hV3.len
  refine (words_none b m _ HC.out.bsz hm hV3.err HBN.out).mono ?_
  rintro e w4 ⟨rfl, hb4⟩
  have hR4 := hR3.below hb4
  have hB4 := bnext hB3 hb4
  have hR4' := hR4
  obtain ⟨r0, r1, r2, r3⟩ := hR4'
  clear hR3 hB3 hV3 hm
  go_wp2_with fail
  obtain ⟨s0, s1⟩ := resA_set hR4 0 0
  have HB' := ResA.setBelow hB4 (Nat.le_refl _) 0 0
  generalize (w4.setCell ⟨w.heap.size, 0, none⟩ (.int .u64 0)).setCell ⟨w.heap.size, 1, none⟩ (.int .u64 0) = W2 at s0 s1 HB' ⊢
  exact bodyPost_ret (v := .tuple #[.agg #[.int .u64 0, .int .u64 0], .bool false]) (by simp [results, Tryz.results32, go_sem, s0, s1]) rfl ⟨rfl, HB'⟩

set_option maxRecDepth 100000 in
set_option maxHeartbeats 6400000 in
theorem read_many (s a b : ByteArray) (short : Bool) (w : World) (hC : Cutted s a b short w) (x y : List Nat) (ha : wordsL a.data.toList = some x) (hb : wordsL b.data.toList = some y) (hbad : (8 : Int) < (x.length : Int) + (y.length : Int)) (hmx : x.length ≤ 4294967296) (hmy : y.length ≤ 4294967296) :
    Calls Tryz.prog 32 #[.string s] w (AddrPost none w) := by
  have h1 := hC.one
  have HC := Lib.hid hC
  have HA := Lib.hid ha
  have HBN := Lib.hid hb
  clear hC ha hb
  go_enter Tryz.func32, Tryz.ntmps32
  go_wp2_with (go_at_call 46; refine HC.out.split.mono ?_; rintro e w1 ⟨rfl, hb1⟩)
  have hb1' : Below (w.alloc (.cells #[.int .u64 0, .int .u64 0] 24)).heap.size (w.alloc (.cells #[.int .u64 0, .int .u64 0] 24)) w1 := by rw [World.size_alloc]; exact hb1
  have hR1 := (resA_new w 24).below hb1'
  have hB1 := (ba1 w (.cells #[.int .u64 0, .int .u64 0] 24)).trans (hb1'.mono (by simp))
  have hV1 := HC.out.vars.below hB1
  clear hb1 hb1'
  go_at_call 48
  refine (HC.out.cut w1 hV1).mono ?_
  rintro e w2 ⟨rfl, hb2⟩
  have hR2 := hR1.below hb2
  have hB2 := bnext hB1 hb2
  have hV2 := hV1.below hb2
  clear hR1 hB1 hV1 hb2
  go_wp2_with fail
  obtain ⟨m, hm⟩ := hV2.len
  refine (words_is a m _ HC.out.asz hm hV2.err x HA.out).mono ?_
  rintro e w3 ⟨⟨A, cap, rfl, hrow⟩, hb3⟩
  have hR3 := hR2.below hb3
  have hB3 := bnext hB2 hb3
  have hV3 := hV2.below hb3
  clear hR2 hB2 hV2 hb3 hm
  go_wp2_with fail
  obtain ⟨m, hm⟩ := hV3.len
  refine (words_is b m _ HC.out.bsz hm hV3.err y HBN.out).mono ?_
  rintro e w4 ⟨⟨A2, cap2, rfl, hrow2⟩, hb4⟩
  have hR4 := hR3.below hb4
  have hB4 := bnext hB3 hb4
  have hrow1 := hrow.below hb4
  have hR4' := hR4
  obtain ⟨r0, r1, r2, r3⟩ := hR4'
  clear hR3 hB3 hV3 hm hrow
  go_wp2_with fail
  obtain ⟨s0, s1⟩ := resA_set hR4 0 0
  have HB' := ResA.setBelow hB4 (Nat.le_refl _) 0 0
  generalize (w4.setCell ⟨w.heap.size, 0, none⟩ (.int .u64 0)).setCell ⟨w.heap.size, 1, none⟩ (.int .u64 0) = W2 at s0 s1 HB' ⊢
  exact bodyPost_ret (v := .tuple #[.agg #[.int .u64 0, .int .u64 0], .bool false]) (by simp [results, Tryz.results32, go_sem, s0, s1]) rfl ⟨rfl, HB'⟩

set_option maxRecDepth 100000 in
set_option maxHeartbeats 6400000 in
theorem read_few (s a b : ByteArray) (w : World) (hC : Cutted s a b false w) (x y : List Nat) (ha : wordsL a.data.toList = some x) (hb : wordsL b.data.toList = some y) (hok : (x.length : Int) + (y.length : Int) ≤ 8) (hbad : ((x.length : Int) != 8) = true) :
    Calls Tryz.prog 32 #[.string s] w (AddrPost none w) := by
  have h1 := hC.one
  have HC := Lib.hid hC
  have HA := Lib.hid ha
  have HBN := Lib.hid hb
  clear hC ha hb
  go_enter Tryz.func32, Tryz.ntmps32
  go_wp2_with (go_at_call 46; refine HC.out.split.mono ?_; rintro e w1 ⟨rfl, hb1⟩)
  have hb1' : Below (w.alloc (.cells #[.int .u64 0, .int .u64 0] 24)).heap.size (w.alloc (.cells #[.int .u64 0, .int .u64 0] 24)) w1 := by rw [World.size_alloc]; exact hb1
  have hR1 := (resA_new w 24).below hb1'
  have hB1 := (ba1 w (.cells #[.int .u64 0, .int .u64 0] 24)).trans (hb1'.mono (by simp))
  have hV1 := HC.out.vars.below hB1
  clear hb1 hb1'
  go_at_call 48
  refine (HC.out.cut w1 hV1).mono ?_
  rintro e w2 ⟨rfl, hb2⟩
  have hR2 := hR1.below hb2
  have hB2 := bnext hB1 hb2
  have hV2 := hV1.below hb2
  clear hR1 hB1 hV1 hb2
  go_wp2_with fail
  obtain ⟨m, hm⟩ := hV2.len
  refine (words_is a m _ HC.out.asz hm hV2.err x HA.out).mono ?_
  rintro e w3 ⟨⟨A, cap, rfl, hrow⟩, hb3⟩
  have hR3 := hR2.below hb3
  have hB3 := bnext hB2 hb3
  have hV3 := hV2.below hb3
  clear hR2 hB2 hV2 hb3 hm
  go_wp2_with fail
  obtain ⟨m, hm⟩ := hV3.len
  refine (words_is b m _ HC.out.bsz hm hV3.err y HBN.out).mono ?_
  rintro e w4 ⟨⟨A2, cap2, rfl, hrow2⟩, hb4⟩
  have hR4 := hR3.below hb4
  have hB4 := bnext hB3 hb4
  have hrow1 := hrow.below hb4
  have hR4' := hR4
  obtain ⟨r0, r1, r2, r3⟩ := hR4'
  clear hR3 hB3 hV3 hm hrow
  go_wp2_with fail
  obtain ⟨s0, s1⟩ := resA_set hR4 0 0
  have HB' := ResA.setBelow hB4 (Nat.le_refl _) 0 0
  generalize (w4.setCell ⟨w.heap.size, 0, none⟩ (.int .u64 0)).setCell ⟨w.heap.size, 1, none⟩ (.int .u64 0) = W2 at s0 s1 HB' ⊢
  exact bodyPost_ret (v := .tuple #[.agg #[.int .u64 0, .int .u64 0], .bool false]) (by simp [results, Tryz.results32, go_sem, s0, s1]) rfl ⟨rfl, HB'⟩

end Go.Proofs.YtgbkeciimddpnaaGreatDoor.Print
