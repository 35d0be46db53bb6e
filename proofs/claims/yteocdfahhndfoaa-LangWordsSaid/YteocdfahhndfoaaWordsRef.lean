/-
The reference's Words and Name, and the law's sameTexts, as printed, come to the plain functions on lists of bytes.
Conditions: texts of at most 65536 bytes.
-/
import Derived.Test.YteocdfahhndfoaaWordsPlain
import Derived.Test.YteocdfahhndfoaaPrint1
import Derived.Test.YteocdfahhndfoaaPrint2
import Derived.IntWalk
namespace Go.Proofs.Yteocdfahhndfoaa.Print
open Go.RowKit Go.Proofs.YteocdfahhndfoaaW.PrintWords Go.Proofs.Yteocdfahhndfoaa.Plain

theorem wrap_next {i n : Nat} (h : i < n) (hn : n ≤ 140737488351232) : wrap64 ((i : Int) + 1) = ((i + 1 : Nat) : Int) := by
  unfold wrap64
  omega
theorem bt_at (s : ByteArray) (i : Nat) (h : i < s.size) : bt s (i : Int) = ((s[i]'h).toNat : Int) := by
  unfold bt
  rw [dif_pos (by simpa using h)]
  rfl
theorem drop_at (s : ByteArray) (i : Nat) (h : i < s.size) : s.data.toList.drop i = (s[i]'h) :: s.data.toList.drop (i + 1) := by
  have hz : s.data.toList.length = s.size := (Lib.size_eq s).symm
  rw [List.drop_eq_getElem_cons (by omega)]
  rfl
theorem toList_nil_iff (s : ByteArray) : s.toList = ([] : List UInt8) ↔ s.data.toList = [] := by rw [Lib.toList_data]
theorem u8_eq (c : UInt8) (n : Nat) (hn : n < 256) : ((c.toNat : Int) = (n : Int)) ↔ c = UInt8.ofNat n := by
  constructor
  · intro h
    apply UInt8.toNat_inj.mp
    rw [UInt8.toNat_ofNat_of_lt' (by simpa using hn)]
    omega
  · rintro rfl
    rw [UInt8.toNat_ofNat_of_lt' (by simpa using hn)]
theorem append_one (w s : ByteArray) (i : Nat) (h : i < s.size) : (w ++ s.extract i (i + 1)).data.toList = w.data.toList ++ [s[i]'h] := by
  have hz : s.data.toList.length = s.size := (Lib.size_eq s).symm
  rw [ByteArray.data_append, Array.toList_append, Lib.extract_data, drop_at s i h, show i + 1 - i = 1 by omega]
  rfl

theorem refWords_from (s : ByteArray) (hs : s.size ≤ 65536) : ∀ (d pos k : Nat) (acc : List ByteArray) (word : ByteArray), pos + d = s.size → 3 * d + 2 ≤ k → acc.length ≤ pos → word.size ≤ pos →
    sallyportref06_Words.l0 k s acc word (pos : Int) = some (if (headL (s.data.toList.drop pos)).all okC = true then (acc ++ (fieldsL (headL (s.data.toList.drop pos)) word.data.toList).map mk, 0) else ([], 60))
  | 0, pos, k, acc, word, hd, hk, ha, hw => by
    have hz : s.data.toList.length = s.size := (Lib.size_eq s).symm
    obtain ⟨m, rfl⟩ : ∃ m, k = m + 1 + 1 := ⟨k - 2, by omega⟩
    rw [List.drop_eq_nil_of_le (by omega)]
    simp only [sallyportref06_Words.l0]
    rw [if_neg (by omega)]
    simp only [sallyportref06_Words.j1]
    rw [if_neg (by simp)]
    simp only [headL, List.takeWhile_nil, List.all_nil, if_true, fieldsL]
    by_cases h : word.toList = ([] : List UInt8)
    · rw [if_pos h, if_pos ((toList_nil_iff word).mp h)]
      simp
    · rw [if_neg h, if_neg (fun e => h ((toList_nil_iff word).mpr e)), if_pos (by omega)]
      simp [mk_data]
  | d + 1, pos, k, acc, word, hd, hk, ha, hw => by
    have hlt : pos < s.size := by omega
    obtain ⟨m, rfl⟩ : ∃ m, k = m + 1 + 1 + 1 := ⟨k - 3, by omega⟩
    have hn : wrap64 ((pos : Int) + 1) = ((pos + 1 : Nat) : Int) := wrap_next hlt (by omega)
    have hc := drop_at s pos hlt
    generalize hcc : s[pos]'hlt = c at hc
    have hb : bt s (pos : Int) = (c.toNat : Int) := by rw [bt_at s pos hlt, hcc]
    have hext : (word ++ s.extract pos (pos + 1)).data.toList = word.data.toList ++ [c] := by rw [append_one word s pos hlt, hcc]
    have hc256 := c.toNat_lt
    simp only [sallyportref06_Words.l0]
    rw [if_pos (by omega), if_pos (by omega), hb]
    by_cases h35 : c = 35
    · subst h35
      simp only [sallyportref06_Words.j1]
      rw [if_neg (by decide), hc]
      simp only [headL, List.takeWhile_cons, bne_self_eq_false, Bool.false_eq_true, if_false, List.all_nil, if_true, fieldsL]
      by_cases h : word.toList = ([] : List UInt8)
      · rw [if_pos h, if_pos ((toList_nil_iff word).mp h)]
        simp
      · rw [if_neg h, if_neg (fun e => h ((toList_nil_iff word).mpr e)), if_pos (by omega)]
        simp [mk_data]
    · have hne : ((c.toNat : Int) != 35) = true := by
        rw [bne_iff_ne]
        intro e
        exact h35 ((u8_eq c 35 (by decide)).mp e)
      have hhead : headL (s.data.toList.drop pos) = c :: headL (s.data.toList.drop (pos + 1)) := by
        rw [hc]
        unfold headL
        rw [List.takeWhile_cons, if_pos (bne_iff_ne.mpr h35)]
      rw [hne]
      simp only [sallyportref06_Words.j1]
      rw [if_pos trivial, if_pos (by omega), if_pos (by omega), hb, hhead]
      have hblank : ∀ (b : Bool), b = true → blankC c = true → okC c = true →
          sallyportref06_Words.j2 (m + 1) s acc word (pos : Int) (c.toNat : Int) b = some (if (c :: headL (s.data.toList.drop (pos + 1))).all okC = true then (acc ++ (fieldsL (c :: headL (s.data.toList.drop (pos + 1))) word.data.toList).map mk, 0) else ([], 60)) := by
        rintro b rfl hbl hok
        simp only [sallyportref06_Words.j2]
        rw [if_pos trivial, hn]
        simp only [List.all_cons, hok, Bool.true_and, fieldsL, hbl, if_true]
        by_cases h : word.toList = ([] : List UInt8)
        · rw [if_pos h, if_pos ((toList_nil_iff word).mp h), refWords_from s hs d (pos + 1) m acc _ (by omega) (by omega) (by omega) (by show (0 : Nat) ≤ _; omega)]
        · rw [if_neg h, if_neg (fun e => h ((toList_nil_iff word).mpr e)), if_pos (by omega), refWords_from s hs d (pos + 1) m (acc ++ [word]) _ (by omega) (by omega) (by simp; omega) (by show (0 : Nat) ≤ _; omega)]
          simp only [List.append_assoc, List.map_cons, mk_data, List.singleton_append]
      by_cases h32 : c = 32
      · rw [if_pos (by rw [h32]; rfl)]
        exact hblank true rfl (by rw [h32]; rfl) (by rw [h32]; rfl)
      · have n32 : ¬ ((c.toNat : Int) = 32) := fun e => h32 ((u8_eq c 32 (by decide)).mp e)
        rw [if_neg n32]
        by_cases h9 : c = 9
        · rw [show ((c.toNat : Int) == 9) = true by rw [h9]; rfl]
          exact hblank true rfl (by rw [h9]; rfl) (by rw [h9]; rfl)
        · have n9 : ¬ ((c.toNat : Int) = 9) := fun e => h9 ((u8_eq c 9 (by decide)).mp e)
          rw [beq_eq_false_iff_ne.mpr n9]
          simp only [sallyportref06_Words.j2]
          rw [if_neg (by simp), hn]
          have hok : okC c = (decide (32 ≤ c.toNat) && decide (c.toNat ≤ 126)) := by
            unfold okC
            rw [beq_eq_false_iff_ne.mpr h9, Bool.false_or]
          have hnb : blankC c = false := by
            unfold blankC
            rw [beq_eq_false_iff_ne.mpr h9, beq_eq_false_iff_ne.mpr h32]
            rfl
          by_cases hlo : (c.toNat : Int) < 33
          · rw [if_pos hlo]
            have : okC c = false := by rw [hok, decide_eq_false (by omega)]; rfl
            simp [this]
          · rw [if_neg hlo]
            by_cases hhi : (c.toNat : Int) > 126
            · rw [if_pos hhi]
              have : okC c = false := by rw [hok, decide_eq_false (show ¬ c.toNat ≤ 126 by omega)]; simp
              simp [this]
            · rw [if_neg hhi, if_pos (by omega), if_pos (by omega), if_pos (by omega)]
              have e1 : ((pos : Nat) : Int).toNat = pos := by omega
              have e2 : ((pos + 1 : Nat) : Int).toNat = pos + 1 := by omega
              rw [e1, e2]
              have hsz : (s.extract pos (pos + 1)).size = 1 := by
                rw [ByteArray.size_extract]
                omega
              rw [if_pos (by rw [hsz]; omega)]
              have hok' : okC c = true := by rw [hok, decide_eq_true (by omega), decide_eq_true (by omega)]; rfl
              rw [refWords_from s hs d (pos + 1) m acc _ (by omega) (by omega) (by omega) (by rw [ByteArray.size_append, hsz]; omega), hext]
              simp only [List.all_cons, hok', Bool.true_and, fieldsL, hnb, Bool.false_eq_true, if_false]
theorem refWords_is (s : ByteArray) (hs : s.size ≤ 65536) : sallyportref06_Words.f (3 * s.size + 2) s = some (if (headL s.data.toList).all okC = true then ((fieldsL (headL s.data.toList) []).map mk, 0) else ([], 60)) := by
  unfold sallyportref06_Words.f
  have := refWords_from s hs s.size 0 (3 * s.size + 2) [] ⟨#[]⟩ (by omega) (by omega) (by simp) (by show (0 : Nat) ≤ _; omega)
  rw [List.drop_zero] at this
  exact this

theorem same_from (l : List ByteArray) (hl : l.length ≤ 140737488351232) : ∀ (d i k : Nat), i + d = l.length → d + 1 ≤ k → sallyportlaw06_sameTexts.l0 k l l (i : Int) = some true
  | 0, i, k, hd, hk => by
    obtain ⟨m, rfl⟩ : ∃ m, k = m + 1 := ⟨k - 1, by omega⟩
    simp only [sallyportlaw06_sameTexts.l0]
    rw [if_neg (by omega)]
  | d + 1, i, k, hd, hk => by
    obtain ⟨m, rfl⟩ : ∃ m, k = m + 1 := ⟨k - 1, by omega⟩
    simp only [sallyportlaw06_sameTexts.l0]
    rw [if_pos (by omega), if_pos (by omega), if_pos (by omega), if_pos trivial, wrap_next (n := l.length) (by omega) hl]
    exact same_from l hl d (i + 1) m (by omega) (by omega)
theorem same_is (l : List ByteArray) (hl : l.length ≤ 140737488351232) : sallyportlaw06_sameTexts.f (l.length + 1) l l = some true := by
  unfold sallyportlaw06_sameTexts.f
  rw [if_pos rfl]
  exact same_from l hl l.length 0 _ (by omega) (by omega)

theorem refName_from (s : ByteArray) (hs : s.size ≤ 140737488351232) : ∀ (d i k : Nat), i + d = s.size → d + 1 ≤ k → sallyportref06_Name.l0 k s (i : Int) = some ((s.data.toList.drop i).all nameC)
  | 0, i, k, hd, hk => by
    have hz : s.data.toList.length = s.size := (Lib.size_eq s).symm
    obtain ⟨m, rfl⟩ : ∃ m, k = m + 1 := ⟨k - 1, by omega⟩
    simp only [sallyportref06_Name.l0]
    rw [if_neg (by omega), List.drop_eq_nil_of_le (by omega)]
    rfl
  | d + 1, i, k, hd, hk => by
    have hlt : i < s.size := by omega
    obtain ⟨m, rfl⟩ : ∃ m, k = m + 1 := ⟨k - 1, by omega⟩
    simp only [sallyportref06_Name.l0]
    rw [if_pos (by omega), if_pos (by omega), wrap_next hlt hs, bt_at s i hlt, drop_at s i hlt, refName_from s hs d (i + 1) m (by omega) (by omega)]
    generalize s[i]'hlt = c
    have g1 : ((c.toNat : Int) ≥ 97) = (97 ≤ c.toNat) := propext (by omega)
    have g2 : ((c.toNat : Int) ≤ 122) = (c.toNat ≤ 122) := propext (by omega)
    have g3 : ((c.toNat : Int) ≥ 48) = (48 ≤ c.toNat) := propext (by omega)
    have g4 : ((c.toNat : Int) ≤ 57) = (c.toNat ≤ 57) := propext (by omega)
    have g5 : ((c.toNat : Int) = 95) = (c.toNat = 95) := propext (by omega)
    simp only [List.all_cons, nameC, g1, g2, g3, g4, g5]
    by_cases h1 : 97 ≤ c.toNat <;> by_cases h2 : c.toNat ≤ 122 <;> by_cases h3 : 48 ≤ c.toNat <;> by_cases h4 : c.toNat ≤ 57 <;> by_cases h5 : c.toNat = 95 <;> simp [h1, h2, h3, h4, h5]

theorem refName_is (s : ByteArray) (hs : s.size ≤ 140737488351232) : sallyportref06_Name.f (s.size + 3) s = some (nameB s.data.toList) := by
  have hz : s.data.toList.length = s.size := (Lib.size_eq s).symm
  have hl := refName_from s hs s.size 0 (s.size + 2) (by omega) (by omega)
  rw [List.drop_zero] at hl
  have hl : sallyportref06_Name.l0 (s.size + 2) s 0 = some (s.data.toList.all nameC) := hl
  have j0t : sallyportref06_Name.j0 (s.size + 3) s true = some false := by
    simp only [sallyportref06_Name.j0]
    rw [if_pos trivial]
  have j0f : sallyportref06_Name.j0 (s.size + 3) s false = some (s.data.toList.all nameC) := by
    rw [show s.size + 3 = (s.size + 2) + 1 from rfl]
    unfold sallyportref06_Name.j0
    simp only [Bool.false_eq_true, if_false]
    exact hl
  unfold sallyportref06_Name.f nameB
  by_cases h1 : (s.size : Int) < 1
  · rw [if_pos h1, j0t, decide_eq_false (by omega)]
    rfl
  · rw [if_neg h1]
    by_cases h2 : (s.size : Int) > 12
    · rw [if_pos h2, j0t, decide_eq_false (show ¬ s.data.toList.length ≤ 12 by omega)]
      simp
    · rw [if_neg h2, Lib.toList_data]
      by_cases h3 : s.data.toList = [97, 110, 121]
      · rw [if_pos h3, j0t, h3]
        rfl
      · rw [if_neg h3, if_pos (by omega)]
        have hb : bt s 0 = (((s.data.toList.getD 0 0)).toNat : Int) := by
          have := bt_at s 0 (by omega)
          rw [show ((0 : Nat) : Int) = 0 from rfl] at this
          rw [this, List.getD_eq_getElem?_getD, List.getElem?_eq_getElem (by omega)]
          rfl
        rw [hb]
        generalize (s.data.toList.getD 0 0).toNat = c
        have h3' : (s.data.toList != [97, 110, 121]) = true := bne_iff_ne.mpr h3
        rw [h3', decide_eq_true (show 1 ≤ s.data.toList.length by omega), decide_eq_true (show s.data.toList.length ≤ 12 by omega)]
        by_cases h4 : (c : Int) < 97
        · rw [if_pos h4, j0t, decide_eq_false (show ¬ 97 ≤ c by omega)]
          simp
        · rw [if_neg h4]
          by_cases h5 : (c : Int) > 122
          · rw [decide_eq_true h5, j0t, decide_eq_false (show ¬ c ≤ 122 by omega)]
            simp
          · rw [decide_eq_false h5, j0f, decide_eq_true (show 97 ≤ c by omega), decide_eq_true (show c ≤ 122 by omega)]
            simp
end Go.Proofs.Yteocdfahhndfoaa.Print
