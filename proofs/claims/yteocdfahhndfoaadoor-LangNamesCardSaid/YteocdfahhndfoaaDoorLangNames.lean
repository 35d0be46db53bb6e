/-
The law LangNames is true at any two texts.
Conditions: the texts are within the reach.
-/
import Derived.Test.YteocdfahhndfoaaDoorRulesE
import Derived.Test.YteocdfahhndfoaaDoorRulesO
import Derived.Test.YteocdfahhndfoaaDoorRulesN
import Derived.Test.YteocdfahhndfoaaDoorLawWalk
namespace Go.Proofs.YteocdfahhndfoaaDoor.Print
open Go.RowKit Go.Proofs.YteocdfahhndfoaaDoorW.PrintWords Go.Proofs.YteocdfahhndfoaaDoor.Plain

theorem dpays_E : DPays 0 ⟨#[]⟩ := fun b c rb rc w hc h0 h1 h2 h3 a0 a1 a2 a3 a4 a5 a6 a7 =>
  checkD_calls b c rb rc 0 w hc h0 h1 h2 h3 (fun _ W hb => rules_E (.slice none 0 0) (.slice none 0 0) (.int .i64 2) (some ⟨b, 0, none⟩) 0 0 0 c rc [limOf ⟨#[111, 110, 101]⟩] rb W
    (pw_cell_below hb a0) (pw_cell_below hb a1) (pw_cell_below hb a2) (pw_cell_below hb a3) (pw_cell_below hb a4) (pw_cell_below hb a5) (pw_cell_below hb a6) (pw_cell_below hb a7))
theorem one_toList : (limOf ⟨#[111, 110, 101]⟩).f0.toList = [111, 110, 101] := by
  show (ByteArray.mk #[111, 110, 101]).toList = _
  rw [Lib.toList_data]
theorem dpays_O (x : UInt8) (l : List UInt8) (h : ((neS x l).toList == [111, 110, 101]) = true) : DPays 0 (neS x l) := fun b c rb rc w hc h0 h1 h2 h3 a0 a1 a2 a3 a4 a5 a6 a7 =>
  checkD_calls b c rb rc 0 w hc h0 h1 h2 h3 (fun HC W hb => rules_O (.slice none 0 0) (.slice none 0 0) (.int .i64 2) (some ⟨b, 0, none⟩) 0 0 0 c rc [limOf ⟨#[111, 110, 101]⟩] rb x l W
    ⟨fun W' hb' => by
      have hn := named_Limit (neS x l) (some ⟨b, 0, none⟩) c [limOf ⟨#[111, 110, 101]⟩] W' (Kd.C_below (Kd.C_below HC hb) hb') (by simp)
      rw [show idxP (fun y : S32 => y.f0.toList == (neS x l).toList) [limOf ⟨#[111, 110, 101]⟩] 0 = 0 from by
        rw [idxP, one_toList, beq_iff_eq.mp h]
        rfl] at hn
      exact hn⟩
    (pw_cell_below hb a0) (pw_cell_below hb a1) (pw_cell_below hb a2) (pw_cell_below hb a3) (pw_cell_below hb a4) (pw_cell_below hb a5) (pw_cell_below hb a6) (pw_cell_below hb a7))
theorem dpays_N (x : UInt8) (l : List UInt8) (h : ((neS x l).toList == [111, 110, 101]) = false) : DPays 62 (neS x l) := fun b c rb rc w hc h0 h1 h2 h3 a0 a1 a2 a3 a4 a5 a6 a7 =>
  checkD_calls b c rb rc 62 w hc h0 h1 h2 h3 (fun HC W hb => rules_N (.slice none 0 0) (.slice none 0 0) (.int .i64 2) (some ⟨b, 0, none⟩) 0 0 0 c rc [limOf ⟨#[111, 110, 101]⟩] rb x l W
    ⟨fun W' hb' => by
      have hn := named_Limit (neS x l) (some ⟨b, 0, none⟩) c [limOf ⟨#[111, 110, 101]⟩] W' (Kd.C_below (Kd.C_below HC hb) hb') (by simp)
      rw [show idxP (fun y : S32 => y.f0.toList == (neS x l).toList) [limOf ⟨#[111, 110, 101]⟩] 0 = -1 from by
        have hne : ([111, 110, 101] == (neS x l).toList) = false := by
          rw [beq_eq_false_iff_ne] at h ⊢
          exact fun e => h e.symm
        rw [idxP, one_toList, hne]
        rfl] at hn
      exact hn⟩
    (pw_cell_below hb a0) (pw_cell_below hb a1) (pw_cell_below hb a2) (pw_cell_below hb a3) (pw_cell_below hb a4) (pw_cell_below hb a5) (pw_cell_below hb a6) (pw_cell_below hb a7))

/-- What Check tells of the configuration with the rule. -/
def fOf (s : ByteArray) : Int := if s.toList.isEmpty = true then 0 else if (s.toList == [111, 110, 101]) = true then 0 else 62
theorem dpays_all (s : ByteArray) : DPays (fOf s) s := by
  obtain ⟨⟨l⟩⟩ := s
  cases l with
  | nil =>
    rw [show fOf ⟨⟨[]⟩⟩ = 0 from by unfold fOf; rw [if_pos em_isEmpty]]
    exact dpays_E
  | cons x l =>
    rw [show (ByteArray.mk ⟨x :: l⟩) = neS x l from by unfold neS; rfl]
    unfold fOf
    rw [if_neg (by rw [neS_isEmpty]; simp)]
    cases h : ((neS x l).toList == [111, 110, 101]) with
    | true => exact dpays_O x l h
    | false => exact dpays_N x l h
theorem law_cases (s t : ByteArray) : LawCases s t (cErr s t) (fOf s) := by
  have ec := cErr_is s t
  rw [Lib.toList_data s, Lib.toList_data t] at ec
  unfold LawCases fOf
  rw [Lib.toList_data s, Lib.toList_data t]
  generalize s.data.toList = a at *
  generalize t.data.toList = b at *
  rw [ec]
  clear ec
  cases h1 : a.isEmpty with
  | true =>
    left
    have : a = [] := List.isEmpty_iff.mp h1
    subst this
    exact ⟨rfl, rfl, rfl, rfl⟩
  | false =>
    cases h2 : (a == [111, 110, 101]) with
    | true =>
      have e : a = [111, 110, 101] := beq_iff_eq.mp h2
      subst e
      have hn : nameB [111, 110, 101] = true := rfl
      by_cases h3 : [111, 110, 101] = b
      · subst h3
        simp [hn]
      · have h3' : ¬ b = [111, 110, 101] := fun e => h3 e.symm
        cases h4 : nameB b <;> simp [hn, h3]
    | false =>
      cases h5 : nameB a with
      | false => simp
      | true =>
        by_cases h3 : a = b
        · subst h3
          simp [h5]
        · cases h4 : nameB b <;> simp [h3]

theorem langNames_true (s t : ByteArray) (w : World) : Calls Tryd.prog 3 #[.string s, .string t] w fun e w' => e = .returned (.bool true) ∧ Below w.heap.size w w' := by
  by_cases hs : s.size ≤ 4096
  · by_cases ht : t.size ≤ 4096
    · exact law_walk s t w (cErr s t) (fOf s) hs ht ⟨rfl⟩ ⟨dpays_all s⟩ ⟨law_cases s t⟩
    · exact law_long2 s t w hs (by omega)
  · exact law_long1 s t w (by omega)
end Go.Proofs.YteocdfahhndfoaaDoor.Print
