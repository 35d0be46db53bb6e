/-
The law LangWords's walk: whatever text it is called with, it returns true and leaves what was there as it was.
Conditions: the world has the program's shape (the library's one variable holds some number).
-/
import Derived.Test.YteocdfahhndfoaaLangName
import Derived.Shelf.Vars
namespace Go.Proofs.Yteocdfahhndfoaa.Print
open Go.RowKit Go.Proofs.YteocdfahhndfoaaW.PrintWords Go.Proofs.Yteocdfahhndfoaa.Plain

theorem headL_size (s : ByteArray) : (mk (headL s.data.toList)).size ≤ s.size := by
  rw [Lib.size_eq s]
  show (headL s.data.toList).length ≤ _
  exact (List.takeWhile_sublist _).length_le

set_option maxHeartbeats 1600000 in
theorem law_long (s : ByteArray) (w : World) (hs : 65536 < s.size) : Calls Try.prog 3 #[.string s] w fun e w' => e = .returned (.bool true) ∧ Below w.heap.size w w' := by
  go_enter Try.func3, Try.ntmps3
  go_wp2_with fail
  go_ret
  exact ⟨rfl, Below.refl _ _⟩

set_option maxHeartbeats 1600000 in
theorem law_ok (s : ByteArray) (m : Int) (w : World) (hm : w.cell? ⟨0, 0, none⟩ = some (.int .i64 m)) (hs : s.size ≤ 65536) (t : ByteArray) (ht : Hid (mk (headL s.data.toList) = t)) (hts : t.size ≤ 65536) (hok : Hid (∀ c ∈ t.data.toList, okC c = true)) (xs : List ByteArray) (hx : Hid ((fieldsL t.data.toList []).map mk = xs))
    (hxl : xs.length ≤ 140737488351232) (hf : Hid (sallyportref06_Words.f (3 * s.size + 2) s = some (xs, 0))) :
    Calls Try.prog 3 #[.string s] w fun e w' => e = .returned (.bool true) ∧ Below w.heap.size w w' := by
  have hw := words_ok s m w hm (by omega) t ht (by omega) hok
  rw [hx.out] at hw
  have Hw := Lib.hid hw
  clear hw
  go_enter Try.func3, Try.ntmps3
  go_wp2_with fail
  refine Hw.out.mono ?_
  rintro e w1 ⟨v, rfl, HR1, HB1⟩
  obtain ⟨A1, c1, rfl, hl1, HC1⟩ := Kd.R_reads HR1
  go_wp2_with fail
  refine (sallyportref06_Words.calls _ s _ _ _ hf.out).mono ?_
  rintro e w2 ⟨v, rfl, HR2, HB2⟩
  obtain ⟨A2, c2, rfl, hl2, HC2⟩ := Kd.R_reads HR2
  have HB3 := HB1.trans (HB2.mono HB1.size)
  go_wp2_with fail
  refine (sallyportlaw06_sameTexts.calls (xs.length + 1) A1 c1 xs A2 c2 xs true _ (Kd.C_below HC1 HB2) hl1 HC2 hl2 (same_is xs hxl)).mono ?_
  rintro e w3 ⟨rfl, ⟨n3, rfl⟩⟩
  go_wp2_with fail
  refine (name_calls s _).mono ?_
  rintro e w4 ⟨rfl, HB4⟩
  have HB5 := HB3.trans ((show Below w2.heap.size w2 w4 from ⟨HB4.os, HB4.tape, HB4.output, HB4.size, HB4.block⟩).mono HB3.size)
  clear HB4
  go_wp2_with fail
  refine (refName_calls s (by omega) _).mono ?_
  rintro e w5 ⟨rfl, hd⟩
  have HB6 := HB5.trans (hd.below.mono HB5.size)
  go_wp2_with fail
  go_ret
  exact ⟨rfl, HB6⟩

set_option maxHeartbeats 1600000 in
theorem law_bad (s : ByteArray) (m : Int) (w : World) (hm : w.cell? ⟨0, 0, none⟩ = some (.int .i64 m)) (hs : s.size ≤ 65536) (t : ByteArray) (ht : Hid (mk (headL s.data.toList) = t)) (hts : t.size ≤ 65536) (q : Nat) (hq : q < t.size) (hqb : Hid (okC (t.data.toList.getD q 0) = false)) (hok : Hid (∀ j, j < q → okC (t.data.toList.getD j 0) = true))
    (hf : Hid (sallyportref06_Words.f (3 * s.size + 2) s = some ([], 60))) :
    Calls Try.prog 3 #[.string s] w fun e w' => e = .returned (.bool true) ∧ Below w.heap.size w w' := by
  have Hw := Lib.hid (words_bad s m w hm (by omega) t ht (by omega) q hq hqb hok)
  clear hq
  go_enter Try.func3, Try.ntmps3
  go_wp2_with fail
  refine Hw.out.mono ?_
  rintro e w1 ⟨rfl, HB1⟩
  go_wp2_with fail
  refine (sallyportref06_Words.calls _ s _ _ _ hf.out).mono ?_
  rintro e w2 ⟨v, rfl, HR2, HB2⟩
  obtain ⟨A2, c2, rfl, hl2, HC2⟩ := Kd.R_reads HR2
  have HB3 := HB1.trans (HB2.mono HB1.size)
  go_wp2_with fail
  refine (sallyportlaw06_sameTexts.calls 1 none 0 [] A2 c2 [] true _ ⟨rfl, by simp, fun h => absurd h (by simp)⟩ (Nat.le_refl _) HC2 hl2 (same_is [] (by simp))).mono ?_
  rintro e w3 ⟨rfl, ⟨n3, rfl⟩⟩
  go_wp2_with fail
  refine (name_calls s _).mono ?_
  rintro e w4 ⟨rfl, HB4⟩
  have HB5 := HB3.trans ((show Below w2.heap.size w2 w4 from ⟨HB4.os, HB4.tape, HB4.output, HB4.size, HB4.block⟩).mono HB3.size)
  clear HB4
  go_wp2_with fail
  refine (refName_calls s (by omega) _).mono ?_
  rintro e w5 ⟨rfl, hd⟩
  have HB6 := HB5.trans (hd.below.mono HB5.size)
  go_wp2_with fail
  go_ret
  exact ⟨rfl, HB6⟩

theorem first_bad : ∀ (l : List UInt8), ¬ (l.all okC = true) → ∃ q, q < l.length ∧ okC (l.getD q 0) = false ∧ ∀ j, j < q → okC (l.getD j 0) = true
  | [], h => absurd rfl h
  | c :: l, h => by
    cases hc : okC c
    · exact ⟨0, by simp, by simpa using hc, fun j hj => by omega⟩
    · have h' : ¬ (l.all okC = true) := by simpa [hc] using h
      obtain ⟨q, h1, h2, h3⟩ := first_bad l h'
      refine ⟨q + 1, by simpa using h1, by simpa using h2, fun j hj => ?_⟩
      cases j with
      | zero => simpa using hc
      | succ j => simpa using h3 j (by omega)
theorem fieldsL_length : ∀ (l cur : List UInt8), (fieldsL l cur).length ≤ l.length + 1
  | [], cur => by unfold fieldsL; split <;> simp
  | c :: l, cur => by
    unfold fieldsL
    have h1 := fieldsL_length l []
    have h2 := fieldsL_length l (cur ++ [c])
    split
    · split <;> simp <;> omega
    · simp; omega

theorem langWords_true (s : ByteArray) (w : World) (_ : s.size ≤ 140737488351232) (hsh : w.ShapedOpen Try.prog) :
    Calls Try.prog 3 #[.string s] w fun e w' => e = .returned (.bool true) ∧ Below w.heap.size w w' := by
  obtain ⟨m, hm⟩ : ∃ m, w.cell? ⟨0, 0, none⟩ = some (.int .i64 m) :=
    cell_of_shapedOpen_int (g := 0) (t := 3) (zero := #[.int .i64 0]) (k := .i64) hsh (of_decide_eq_true (by kernel_rfl)) (by kernel_rfl) rfl (by kernel_rfl) (by kernel_rfl) Try.underlying3
  by_cases hs : s.size ≤ 65536
  · have hR := refWords_is s hs
    have hsz := headL_size s
    by_cases hall : (headL s.data.toList).all okC = true
    · rw [if_pos hall] at hR
      refine law_ok s m w hm hs (mk (headL s.data.toList)) rfl (by omega) (fun c hc => List.all_eq_true.mp hall c hc) _ rfl ?_ hR
      have h1 := fieldsL_length (headL s.data.toList) []
      have h2 : (headL s.data.toList).length ≤ s.size := hsz
      rw [List.length_map]
      show (fieldsL (headL s.data.toList) []).length ≤ _
      omega
    · rw [if_neg hall] at hR
      obtain ⟨q, h1, h2, h3⟩ := first_bad _ hall
      exact law_bad s m w hm hs (mk (headL s.data.toList)) rfl (by omega) q h1 h2 h3 hR
  · exact law_long s w (by omega)
end Go.Proofs.Yteocdfahhndfoaa.Print
