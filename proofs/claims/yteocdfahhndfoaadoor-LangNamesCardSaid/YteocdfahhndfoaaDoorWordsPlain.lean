/-
Plain facts of words and names: what FieldsFunc and IndexFunc say of texts, as lists of bytes.
Conditions: as stated; no program in sight.
-/
import Derived.Lib.FieldsP
import Derived.Lib.IndexMore
import Derived.Laws.RangeAny
import Derived.Laws.RangeString
import Derived.Shelf.GgClosure.StringsIndexFunc
namespace Go.Proofs.YteocdfahhndfoaaDoor.Plain

/-- What stands ahead of the first '#'. -/
def headL (l : List UInt8) : List UInt8 := l.takeWhile (fun c => c != 35)
def okC (c : UInt8) : Bool := c == 9 || (decide (32 ≤ c.toNat) && decide (c.toNat ≤ 126))
def blankC (c : UInt8) : Bool := c == 32 || c == 9
def blankR (r : Nat) : Bool := decide (r = 32) || decide (r = 9)
/-- The words of a text; cur: the word that has been begun. -/
def fieldsL : List UInt8 → List UInt8 → List (List UInt8)
  | [], cur => if cur = [] then [] else [cur]
  | c :: l, cur => if blankC c then (if cur = [] then fieldsL l [] else cur :: fieldsL l []) else fieldsL l (cur ++ [c])
def mk (l : List UInt8) : ByteArray := ⟨l.toArray⟩

theorem mk_data (s : ByteArray) : mk s.data.toList = s := by
  obtain ⟨⟨l⟩⟩ := s
  rfl
theorem extract_mk_ (s : ByteArray) (a b : Nat) : s.extract a b = mk ((s.data.toList.drop a).take (b - a)) := by
  rw [← Lib.extract_data, mk_data]

theorem index_head (l : List UInt8) : (Lib.indexByte l 35 = -1 ∧ headL l = l) ∨ (∃ i : Nat, Lib.indexByte l 35 = i ∧ headL l = l.take i) := by
  induction l with
  | nil => exact Or.inl ⟨rfl, rfl⟩
  | cons b l ih =>
    unfold headL at ih ⊢
    by_cases hb : b = 35
    · subst hb
      exact Or.inr ⟨0, rfl, by simp⟩
    · have h1 : (b == 35) = false := beq_eq_false_iff_ne.mpr hb
      have h2 : (b != 35) = true := bne_iff_ne.mpr hb
      rcases ih with ⟨e, h⟩ | ⟨i, e, h⟩
      · left
        refine ⟨by simp [Lib.indexByte, h1, e], ?_⟩
        rw [List.takeWhile_cons, h2]
        simp [h]
      · right
        refine ⟨i + 1, ?_, ?_⟩
        · have : ((i : Int) == -1) = false := by rw [beq_eq_false_iff_ne]; omega
          simp [Lib.indexByte, h1, e, this]
        · rw [List.takeWhile_cons, h2]
          simp [h]
theorem cut_head (l : List UInt8) : (Lib.cut l [35]).1 = headL l := by
  unfold Lib.cut
  rw [Lib.index_one]
  rcases index_head l with ⟨e, h⟩ | ⟨i, e, h⟩
  · rw [e, if_neg (by omega), h]
  · rw [e, if_pos (by omega), h]
    simp

theorem fields_from (t : ByteArray) (h : ∀ c ∈ t.data.toList, okC c = true) : ∀ (f pos : Nat) (st : Option Nat) (acc : List (Nat × Nat)), t.size ≤ pos + f → pos ≤ t.size → (∀ a, st = some a → a < pos) →
    (Lib.closeSpans t (Lib.spansFromP blankR t f pos st acc)).map (fun x => t.extract x.1 x.2) =
      acc.map (fun x => t.extract x.1 x.2) ++ (fieldsL (t.data.toList.drop pos) (match st with | none => [] | some a => (t.data.toList.drop a).take (pos - a))).map mk
  | 0, pos, st, acc, hf, hp, hst => by
    have hz : t.data.toList.length = t.size := (Lib.size_eq t).symm
    have e : pos = t.size := by omega
    rw [List.drop_eq_nil_of_le (by omega)]
    cases st with
    | none => simp [Lib.spansFromP, Lib.closeSpans, fieldsL]
    | some a =>
      have ha := hst a rfl
      have hne : ¬ ((t.data.toList.drop a).take (pos - a) = []) := by
        intro h0
        have := congrArg List.length h0
        simp only [List.length_take, List.length_drop, List.length_nil] at this
        omega
      simp only [Lib.spansFromP, Lib.closeSpans, fieldsL, if_neg hne, List.map_append, List.map_cons, List.map_nil]
      rw [extract_mk_, e]
  | f + 1, pos, st, acc, hf, hp, hst => by
    have hz : t.data.toList.length = t.size := (Lib.size_eq t).symm
    by_cases hlt : pos < t.size
    · have hb : (t[pos]'hlt) ∈ t.data.toList := by
        have : t[pos]'hlt = t.data.toList[pos]'(by omega) := rfl
        rw [this]
        exact List.getElem_mem _
      have hok := h _ hb
      have ha : (t[pos]'hlt).toNat < 128 := by
        unfold okC at hok
        by_cases h9 : t[pos]'hlt = 9
        · rw [h9]; decide
        · have := beq_eq_false_iff_ne.mpr h9
          simp [this] at hok
          omega
      have hd := Go.decode_ascii t pos hlt ha
      have hdrop : t.data.toList.drop pos = (t[pos]'hlt) :: t.data.toList.drop (pos + 1) := by
        rw [List.drop_eq_getElem_cons (by omega)]
        rfl
      have hbl : blankR (t[pos]'hlt).toNat = blankC (t[pos]'hlt) := by
        unfold blankR blankC
        generalize t[pos]'hlt = c
        have e1 : decide (c.toNat = 32) = (c == 32) := by
          by_cases hc : c = 32
          · subst hc; rfl
          · rw [beq_eq_false_iff_ne.mpr hc, decide_eq_false]
            intro hh
            exact hc (UInt8.toNat_inj.mp hh)
        have e2 : decide (c.toNat = 9) = (c == 9) := by
          by_cases hc : c = 9
          · subst hc; rfl
          · rw [beq_eq_false_iff_ne.mpr hc, decide_eq_false]
            intro hh
            exact hc (UInt8.toNat_inj.mp hh)
        rw [e1, e2]
      unfold Lib.spansFromP
      rw [if_pos hlt, hd, hdrop]
      dsimp only
      rw [hbl]
      cases hbb : blankC (t[pos]'hlt)
      · rw [if_neg (by simp)]
        cases st with
        | none =>
          dsimp only
          rw [fields_from t h f (pos + 1) (some pos) acc (by omega) (by omega) (by intro a ha'; cases ha'; omega)]
          simp only [fieldsL, hbb, Bool.false_eq_true, if_false, List.nil_append]
          congr 2
          rw [hdrop]
          simp
        | some a =>
          have ha' := hst a rfl
          dsimp only
          rw [fields_from t h f (pos + 1) (some a) acc (by omega) (by omega) (by intro a' e'; cases e'; omega)]
          simp only [fieldsL, hbb, Bool.false_eq_true, if_false]
          congr 3
          rw [show pos + 1 - a = (pos - a) + 1 by omega, List.take_add_one]
          congr 1
          rw [List.getElem?_drop, show a + (pos - a) = pos by omega, List.getElem?_eq_getElem (by omega)]
          rfl
      · rw [if_pos rfl]
        cases st with
        | none =>
          dsimp only
          rw [fields_from t h f (pos + 1) none acc (by omega) (by omega) (by intro a ha'; cases ha')]
          simp only [fieldsL, hbb, if_true]
        | some a =>
          have ha' := hst a rfl
          have hne : ¬ ((t.data.toList.drop a).take (pos - a) = []) := by
            intro h0
            have := congrArg List.length h0
            simp only [List.length_take, List.length_drop, List.length_nil] at this
            omega
          dsimp only
          rw [fields_from t h f (pos + 1) none (acc ++ [(a, pos)]) (by omega) (by omega) (by intro a ha'; cases ha')]
          simp only [fieldsL, hbb, if_true, if_neg hne, List.map_append, List.map_cons, List.map_nil, List.append_assoc, List.singleton_append]
          rw [extract_mk_]
    · have e : pos = t.size := by omega
      rw [Lib.spansFromP_end _ _ _ _ _ _ hlt, List.drop_eq_nil_of_le (by omega)]
      cases st with
      | none => simp [Lib.closeSpans, fieldsL]
      | some a =>
        have ha := hst a rfl
        have hne : ¬ ((t.data.toList.drop a).take (pos - a) = []) := by
          intro h0
          have := congrArg List.length h0
          simp only [List.length_take, List.length_drop, List.length_nil] at this
          omega
        simp only [Lib.closeSpans, fieldsL, if_neg hne, List.map_append, List.map_cons, List.map_nil]
        rw [extract_mk_, e]

theorem fields_go (t : ByteArray) (h : ∀ c ∈ t.data.toList, okC c = true) : Lib.goFieldsP blankR t = (fieldsL t.data.toList []).map mk := by
  have := fields_from t h t.size 0 none [] (by omega) (by omega) (by intro a ha; cases ha)
  simpa [Lib.goFieldsP, Lib.spansOfP] using this

/-! ### names -/
def nameC (c : UInt8) : Bool := decide (97 ≤ c.toNat) && decide (c.toNat ≤ 122) || decide (48 ≤ c.toNat) && decide (c.toNat ≤ 57) || decide (c.toNat = 95)
def oddR (r : Nat) : Bool := !(decide (97 ≤ r) && decide (r ≤ 122) || decide (48 ≤ r) && decide (r ≤ 57) || decide (r = 95))
theorem idx_from (s : ByteArray) : ∀ (f pos : Nat), s.size ≤ pos + f → pos ≤ s.size →
    (Lib.idxFuncFrom oddR true s f pos = -1 ∧ ∀ c ∈ s.data.toList.drop pos, nameC c = true) ∨ (0 ≤ Lib.idxFuncFrom oddR true s f pos ∧ ∃ c ∈ s.data.toList.drop pos, nameC c = false)
  | 0, pos, hf, hp => by
    have hz : s.data.toList.length = s.size := (Lib.size_eq s).symm
    left
    rw [List.drop_eq_nil_of_le (by omega)]
    exact ⟨rfl, by simp⟩
  | f + 1, pos, hf, hp => by
    have hz : s.data.toList.length = s.size := (Lib.size_eq s).symm
    by_cases hlt : pos < s.size
    · have hdrop : s.data.toList.drop pos = (s[pos]'hlt) :: s.data.toList.drop (pos + 1) := by
        rw [List.drop_eq_getElem_cons (by omega)]
        rfl
      unfold Lib.idxFuncFrom
      rw [if_pos hlt]
      cases hn : nameC (s[pos]'hlt)
      · right
        have hodd : oddR (Utf8.decode s pos).1 = true := by
          by_cases ha : (s[pos]'hlt).toNat < 128
          · rw [Go.decode_ascii s pos hlt ha]
            unfold nameC at hn
            unfold oddR
            simp only [hn, Bool.not_false]
          · have := (Go.decode_high s pos hlt (by omega)).1
            unfold oddR
            rw [decide_eq_false (show ¬ (Utf8.decode s pos).1 ≤ 122 by omega), decide_eq_false (show ¬ (Utf8.decode s pos).1 ≤ 57 by omega), decide_eq_false (show ¬ (Utf8.decode s pos).1 = 95 by omega)]
            simp
        rw [if_pos hodd]
        exact ⟨by omega, _, by rw [hdrop]; exact List.mem_cons_self, hn⟩
      · have ha : (s[pos]'hlt).toNat < 128 := by
          unfold nameC at hn
          simp at hn
          omega
        rw [Go.decode_ascii s pos hlt ha]
        have hodd : oddR (s[pos]'hlt).toNat = false := by
          unfold nameC at hn
          unfold oddR
          simp only [hn, Bool.not_true]
        dsimp only
        rw [hodd, if_neg (by simp)]
        rcases idx_from s f (pos + 1) (by omega) (by omega) with ⟨e, h⟩ | ⟨e, c, h1, h2⟩
        · left
          refine ⟨e, fun c hc => ?_⟩
          rw [hdrop] at hc
          rcases List.mem_cons.mp hc with rfl | hc
          · exact hn
          · exact h c hc
        · right
          refine ⟨e, c, ?_, h2⟩
          rw [hdrop]
          exact List.mem_cons_of_mem _ h1
    · left
      rw [Lib.idxFuncFrom_end _ _ _ _ _ hlt, List.drop_eq_nil_of_le (by omega)]
      exact ⟨rfl, by simp⟩
theorem idx_name (s : ByteArray) : decide (Lib.idxFunc oddR true s < 0) = s.data.toList.all nameC := by
  unfold Lib.idxFunc
  rcases idx_from s s.size 0 (by omega) (by omega) with ⟨e, h⟩ | ⟨e, c, h1, h2⟩
  · rw [e]
    rw [List.drop_zero] at h
    exact (List.all_eq_true.mpr h).symm
  · rw [List.drop_zero] at h1
    rw [decide_eq_false (by omega)]
    symm
    rw [List.all_eq_false]
    exact ⟨c, h1, by simp [h2]⟩
/-- Is a text a name? -/
def nameB (l : List UInt8) : Bool := decide (1 ≤ l.length) && decide (l.length ≤ 12) && (l != [97, 110, 121]) && decide (97 ≤ (l.getD 0 0).toNat) && decide ((l.getD 0 0).toNat ≤ 122) && l.all nameC
end Go.Proofs.YteocdfahhndfoaaDoor.Plain
