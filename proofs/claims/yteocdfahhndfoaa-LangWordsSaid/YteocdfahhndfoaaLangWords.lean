/-
The walks of lang.Words and lang.Name: a line's words, and whether a text is a name, are what the plain functions on lists of bytes say.
Conditions: texts of fewer than 4294967281 bytes; the library's one variable holds some number.
-/
import Derived.Test.YteocdfahhndfoaaPrint1
import Derived.Test.YteocdfahhndfoaaPrint2
import Derived.Test.YteocdfahhndfoaaShelf
import Derived.Test.YteocdfahhndfoaaWordsRef
import Derived.WalkKit
import Derived.LoopTactic
import Derived.Lib.ConvBytes
import Derived.Lib.Hide
import Derived.BigQuiet
import Derived.Deep.QuietTactic
namespace Go.Proofs.Yteocdfahhndfoaa.Print
open Go.RowKit Go.Proofs.YteocdfahhndfoaaW.PrintWords Go.Proofs.Yteocdfahhndfoaa.Plain

theorem blank_pays (w : World) : PredAt Try.prog 11 #[] encR blankR w := fun W r _ => by
  unfold FnGives
  by_cases h1 : r = 32 <;> by_cases h2 : r = 9
  all_goals
    have z1 : ((r : Int) == 32) = decide (r = 32) := by rw [Bool.eq_iff_iff]; simp; omega
    have z2 : ((r : Int) == 9) = decide (r = 9) := by rw [Bool.eq_iff_iff]; simp; omega
    go_enter Try.func11, Try.ntmps11
    go_wp2
    all_goals first | (exfalso; omega) | (go_ret; exact ⟨by simp [blankR, h1, h2], 0, rfl⟩)

theorem conv_any (w : World) (s : ByteArray) : ∃ (W : World) (c : Nat), (convert 9 30 (.string s)).run Try.prog w = .ok (.slice (some ⟨w.heap.size, 0, none⟩) s.size c) W ∧ Below w.heap.size w W ∧ W.heap.size = w.heap.size + 1 ∧
    ∀ j, j < s.size → W.cell? ⟨w.heap.size, j, none⟩ = some (.int .u8 (s.data.toList.getD j 0).toNat) :=
  ⟨Lib.bytesWorld w 5 s, grownCap w s.size 0 5, Lib.run_convert_string_bytes w 9 30 5 s Try.underlying9 Try.underlying30 Try.underlying5,
    ⟨rfl, rfl, rfl, by rw [Lib.bytesWorld_size]; omega, fun k hk => Lib.bytesWorld_at_old w 5 s k hk⟩, Lib.bytesWorld_size w 5 s, fun j hj => Lib.bytesWorld_cell w 5 s j hj⟩

theorem R_of_owns {w : World} {base : Nat} {v : Value} {xs : List ByteArray} (h : w.ownsRow base 9 1 v xs.length (xs.map Value.string)) : Kd.R Kd.string 9 w base (fun _ => True) v xs := by
  refine ⟨fun _ _ => trivial, xs.map Value.string, h, by show _ = _ * 1; simp, fun j p hj => ?_⟩
  show (((xs.map Value.string).drop (j * 1)).take 1) = [Value.string p]
  have hlt : j < xs.length := by
    rcases Nat.lt_or_ge j xs.length with h' | h'
    · exact h'
    · rw [List.getElem?_eq_none h'] at hj; cases hj
  rw [Nat.mul_one, List.drop_eq_getElem_cons (by simpa using hlt)]
  rw [List.getElem?_eq_getElem hlt] at hj
  simp [Option.some.inj hj]

/-- What Words hands back: a row of these words, and no error. -/
def WordsPost (xs : List ByteArray) (w : World) (e : Ending) (w' : World) : Prop := ∃ v : Value, e = .returned (.tuple #[v, .int .i64 0]) ∧ Kd.R Kd.string 9 w' w.heap.size (fun _ => True) v xs ∧ Below w.heap.size w w'

set_option maxHeartbeats 1600000 in
theorem words_ok (s : ByteArray) (m : Int) (w : World) (hm : w.cell? ⟨0, 0, none⟩ = some (.int .i64 m)) (hs : s.size < 4294967281) (t : ByteArray) (ht : Hid (mk (headL s.data.toList) = t)) (hts : t.size < 4294967281) (hok : Hid (∀ c ∈ t.data.toList, okC c = true)) :
    Calls Try.prog 4 #[.string s] w (WordsPost ((fieldsL t.data.toList []).map mk) w) := by
  have et : (⟨(Lib.cut s.data.toList [35]).1.toArray⟩ : ByteArray) = t := by rw [cut_head]; exact ht.out
  go_enter Try.func4, Try.ntmps4
  go_wp2_with fail
  refine (Try.strings_Cut s _ m _ hs hm).mono ?_
  rintro e w1 ⟨rfl, nq, rfl⟩
  have HB0 : Below w.heap.size w (w.drewN nq) := ⟨rfl, rfl, rfl, Nat.le_refl _, fun _ _ => rfl⟩
  obtain ⟨W, c, hrun, hb, hz, hcell⟩ := conv_any (w.drewN nq) t
  have HB1 := HB0.trans hb
  have HC : Hid (∀ j, j < t.size → W.cell? ⟨w.heap.size, j, none⟩ = some (.int .u8 (t.data.toList.getD j 0).toNat)) := hcell
  clear hcell hb hz HB0
  go_wp2_with fail
  clear et hrun
  go_loop [15] (fun i => ∃ k : Nat, k ≤ t.size ∧ i = .int .i64 k) (fun i => t.size - (intOf i).toNat)
  case atStart => exact ⟨0, Nat.zero_le _, rfl⟩
  case round =>
    obtain ⟨k, hk, rfl⟩ := hrel
    by_cases hlt : k < t.size
    · have hc0 := HC.out k hlt
      have hokk : okC (t.data.toList.getD k 0) = true := hok.out _ (by rw [List.getD_eq_getElem?_getD, List.getElem?_eq_getElem (by rw [← Lib.size_eq]; exact hlt)]; exact List.getElem_mem _)
      generalize (t.data.toList.getD k 0) = c0 at hc0 hokk
      unfold okC at hokk
      by_cases h9 : c0 = 9
      · subst h9
        clear hokk
        go_wp2_with fail
        go_round
        case rel => exact ⟨k + 1, by omega, by go_num⟩
        case measure => simp [intOf]; omega
      · rw [beq_eq_false_iff_ne.mpr h9, Bool.false_or, Bool.and_eq_true, decide_eq_true_eq, decide_eq_true_eq] at hokk
        obtain ⟨g1, g2⟩ := hokk
        have g3 : ((c0.toNat : Int) == 9) = false := by
          rw [beq_eq_false_iff_ne]
          intro e
          exact h9 ((u8_eq c0 9 (by decide)).mp e)
        generalize c0.toNat = cn at hc0 g1 g2 g3
        clear h9
        go_wp2_with fail
        go_round
        case rel => exact ⟨k + 1, by omega, by go_num⟩
        case measure => simp [intOf]; omega
    · go_wp2_with fail
      refine (Try.strings_FieldsFunc 11 #[] (enters_of Try.func11 (by kernel_rfl) rfl) blankR t W (by omega) (blank_pays W)).mono ?_
      rintro e w2 ⟨A, rfl, hA, hown, hb⟩
      rw [fields_go t hok.out] at hown ⊢
      have HR := Kd.R_lower (R_of_owns hown) HB1.size
      have HB2 := HB1.trans (hb.mono HB1.size)
      simp only [List.length_map] at HR
      clear hown hb hA
      go_wp2_with fail
      go_ret2
      exact ⟨_, rfl, HR, HB2⟩

def WordsBad (w : World) (e : Ending) (w' : World) : Prop := e = .returned (.tuple #[.slice none 0 0, .int .i64 60]) ∧ Below w.heap.size w w'
set_option maxHeartbeats 1600000 in
theorem words_bad (s : ByteArray) (m : Int) (w : World) (hm : w.cell? ⟨0, 0, none⟩ = some (.int .i64 m)) (hs : s.size < 4294967281) (t : ByteArray) (ht : Hid (mk (headL s.data.toList) = t)) (hts : t.size < 4294967281) (q : Nat) (hq : q < t.size) (hqb : Hid (okC (t.data.toList.getD q 0) = false)) (hok : Hid (∀ j, j < q → okC (t.data.toList.getD j 0) = true)) :
    Calls Try.prog 4 #[.string s] w (WordsBad w) := by
  have et : (⟨(Lib.cut s.data.toList [35]).1.toArray⟩ : ByteArray) = t := by rw [cut_head]; exact ht.out
  go_enter Try.func4, Try.ntmps4
  go_wp2_with fail
  refine (Try.strings_Cut s _ m _ hs hm).mono ?_
  rintro e w1 ⟨rfl, nq, rfl⟩
  have HB0 : Below w.heap.size w (w.drewN nq) := ⟨rfl, rfl, rfl, Nat.le_refl _, fun _ _ => rfl⟩
  obtain ⟨W, c, hrun, hb, hz, hcell⟩ := conv_any (w.drewN nq) t
  have HB1 := HB0.trans hb
  have HC : Hid (∀ j, j < t.size → W.cell? ⟨w.heap.size, j, none⟩ = some (.int .u8 (t.data.toList.getD j 0).toNat)) := hcell
  clear hcell hb hz HB0
  go_wp2_with fail
  clear et hrun
  go_loop [15] (fun i => ∃ k : Nat, k ≤ q ∧ i = .int .i64 k) (fun i => t.size - (intOf i).toNat)
  case atStart => exact ⟨0, Nat.zero_le _, rfl⟩
  case round =>
    obtain ⟨k, hk, rfl⟩ := hrel
    have hlt : k < t.size := by omega
    have hc0 := HC.out k hlt
    by_cases hkq : k < q
    · have hokk := hok.out k hkq
      generalize (t.data.toList.getD k 0) = c0 at hc0 hokk
      unfold okC at hokk
      by_cases h9 : c0 = 9
      · subst h9
        clear hokk
        go_wp2_with fail
        go_round
        case rel => exact ⟨k + 1, by omega, by go_num⟩
        case measure => simp [intOf]; omega
      · rw [beq_eq_false_iff_ne.mpr h9, Bool.false_or, Bool.and_eq_true, decide_eq_true_eq, decide_eq_true_eq] at hokk
        obtain ⟨g1, g2⟩ := hokk
        have g3 : ((c0.toNat : Int) == 9) = false := by
          rw [beq_eq_false_iff_ne]
          intro e
          exact h9 ((u8_eq c0 9 (by decide)).mp e)
        generalize c0.toNat = cn at hc0 g1 g2 g3
        clear h9
        go_wp2_with fail
        go_round
        case rel => exact ⟨k + 1, by omega, by go_num⟩
        case measure => simp [intOf]; omega
    · obtain rfl : k = q := by omega
      have hbad := hqb.out
      generalize (t.data.toList.getD k 0) = c0 at hc0 hbad
      unfold okC at hbad
      rw [Bool.or_eq_false_iff, beq_eq_false_iff_ne] at hbad
      obtain ⟨h9, hr⟩ := hbad
      have g3 : ((c0.toNat : Int) != 9) = true := by
        rw [bne_iff_ne]
        intro e
        exact h9 ((u8_eq c0 9 (by decide)).mp e)
      have g1 : c0.toNat < 32 ∨ 126 < c0.toNat := by
        by_cases h32 : 32 ≤ c0.toNat
        · rw [decide_eq_true h32, Bool.true_and, decide_eq_false_iff_not] at hr
          omega
        · omega
      generalize c0.toNat = cn at hc0 g1 g3
      clear h9 hr
      rcases g1 with g1 | g1
      all_goals
        go_wp2_with fail
        go_ret2
        exact ⟨rfl, HB1⟩
end Go.Proofs.Yteocdfahhndfoaa.Print
