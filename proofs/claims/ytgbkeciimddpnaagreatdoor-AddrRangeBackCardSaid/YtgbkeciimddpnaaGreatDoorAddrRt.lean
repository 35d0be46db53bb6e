/-
Ranges in text: what PrintRange comes to, and that ParseRange reads it back.
Conditions: numbers of 64 bits.
-/
import Derived.Test.YtgbkeciimddpnaaGreatDoorAddrRx
namespace Go.Proofs.YtgbkeciimddpnaaGreatDoor.Ranges
open Go Go.RowKit Go.Proofs.YtgbkeciimddpnaaGreatDoorW.PrintWords Go.Proofs.YtgbkeciimddpnaaGreatDoor.Print Go.Proofs.YtgbkeciimddpnaaGreatDoor.AddrP
theorem indexByte_no (c : UInt8) : ∀ l : List UInt8, c ∉ l → Lib.indexByte l c = -1
  | [], _ => rfl
  | x :: l, h => by
    simp only [List.mem_cons, not_or] at h
    unfold Lib.indexByte
    rw [indexByte_no c l h.2]
    have : ¬ x = c := fun e => h.1 e.symm
    simp [this]
theorem indexByte_at (c : UInt8) (r : List UInt8) : ∀ l : List UInt8, c ∉ l → Lib.indexByte (l ++ c :: r) c = (l.length : Int)
  | [], _ => by simp [Lib.indexByte]
  | x :: l, h => by
    simp only [List.mem_cons, not_or] at h
    rw [List.cons_append]
    unfold Lib.indexByte
    rw [indexByte_at c r l h.2]
    have : ¬ x = c := fun e => h.1 e.symm
    simp [this]
theorem hexs_no (c : UInt8) (hc : c = 45 ∨ c = 47) (l : List Nat) : c ∉ hexs l := join_no c 58 (by rcases hc with rfl | rfl <;> decide) _ (by
  intro y hy
  obtain ⟨n, _, rfl⟩ := List.mem_map.mp hy
  intro h
  have := digs_no (by omega) (by omega) n _ h
  rcases hc with rfl | rfl
  · exact this.2.2.1 rfl
  · exact this.2.2.2 rfl)
theorem prA_no (c : UInt8) (hc : c = 45 ∨ c = 47) (hi lo : Nat) : c ∉ prA hi lo := by
  unfold prA
  split
  · unfold pr4
    refine join_no c 46 (by rcases hc with rfl | rfl <;> decide) _ ?_
    intro y hy
    obtain ⟨n, _, rfl⟩ := List.mem_map.mp hy
    intro h
    have := digs_no (by omega) (by omega) n _ h
    rcases hc with rfl | rfl
    · exact this.2.2.1 rfl
    · exact this.2.2.2 rfl
  · unfold pr6
    split
    · exact hexs_no c hc _
    · simp only [List.mem_append, not_or]
      exact ⟨⟨hexs_no c hc _, by rcases hc with rfl | rfl <;> decide⟩, hexs_no c hc _⟩
/-- What PrintRange comes to: a text, and the error. -/
def printRg (f0 f1 t0 t1 : Int) : List UInt8 × Int :=
  if 0 < cmpA f0 f1 t0 t1 ∨ is4 f0 f1 ≠ is4 t0 t1 then ([], 31)
  else if f0 = t0 ∧ f1 = t1 then (prA f0.toNat f1.toNat, 0)
  else if prefP f0 f1 (sameP f0 f1 t0 t1) = (f0, f1, t0, t1, 0) then (prA f0.toNat f1.toNat ++ 47 :: digs 10 (sameP f0 f1 t0 t1).toNat, 0)
  else (prA f0.toNat f1.toNat ++ 45 :: prA t0.toNat t1.toNat, 0)
theorem pz_prA (a0 a1 : Int) (w0 : 0 ≤ a0 ∧ a0 ≤ top) (w1 : 0 ≤ a1 ∧ a1 ≤ top) : pz (prA a0.toNat a1.toNat) = (a0, a1, 0) := by
  unfold top at w0 w1
  unfold pz
  rw [parseL_prA _ _ (by omega) (by omega)]
  simp only []
  rw [Int.toNat_of_nonneg w0.1, Int.toNat_of_nonneg w1.1]
theorem prefP_ok {a0 a1 n t0 t1 : Int} (h : prefP a0 a1 n = (a0, a1, t0, t1, 0)) : 0 ≤ n ∧ n ≤ 128 := by
  rcases prefP_cases a0 a1 n with e | ⟨n0, n1, _⟩
  · rw [e] at h
    have := congrArg (fun x : Int × Int × Int × Int × Int => x.2.2.2.2) h
    simp at this
  · refine ⟨n0, ?_⟩
    split at n1 <;> omega
theorem print_back (f0 f1 t0 t1 : Int) (w0 : 0 ≤ f0 ∧ f0 ≤ top) (w1 : 0 ≤ f1 ∧ f1 ≤ top) (w2 : 0 ≤ t0 ∧ t0 ≤ top) (w3 : 0 ≤ t1 ∧ t1 ≤ top) (h : (printRg f0 f1 t0 t1).2 = 0) :
    parseRg (printRg f0 f1 t0 t1).1 = (f0, f1, t0, t1, 0) := by
  unfold printRg at h ⊢
  by_cases c1 : 0 < cmpA f0 f1 t0 t1 ∨ is4 f0 f1 ≠ is4 t0 t1
  · rw [if_pos c1] at h; cases h
  rw [if_neg c1]
  have n47 := prA_no 47 (.inr rfl) f0.toNat f1.toNat
  have n45 := prA_no 45 (.inl rfl) f0.toNat f1.toNat
  by_cases c2 : f0 = t0 ∧ f1 = t1
  · rw [if_pos c2]
    unfold parseRg
    simp only []
    rw [indexByte_no 47 _ n47, indexByte_no 45 _ n45, if_neg (by decide), if_neg (by decide), pz_prA f0 f1 w0 w1]
    rw [← c2.1, ← c2.2]
  rw [if_neg c2]
  by_cases c3 : prefP f0 f1 (sameP f0 f1 t0 t1) = (f0, f1, t0, t1, 0)
  · rw [if_pos c3]
    unfold parseRg
    simp only []
    rw [indexByte_at 47 _ _ n47, if_pos (by omega), Int.toNat_natCast, List.take_left, ← List.drop_drop, List.drop_left, List.drop_one, List.tail_cons]
    unfold rgSlash
    rw [pz_prA f0 f1 w0 w1]
    have hb := prefP_ok c3
    have hn : numI (digs 10 (sameP f0 f1 t0 t1).toNat) = sameP f0 f1 t0 t1 := by
      unfold numI
      rw [numL_digs _ (by omega)]
      simp only []
      exact Int.toNat_of_nonneg hb.1
    rw [hn, if_neg (by simp), if_neg (by omega)]
    exact c3
  · rw [if_neg c3]
    unfold parseRg
    simp only []
    have m47 : (47 : UInt8) ∉ prA f0.toNat f1.toNat ++ 45 :: prA t0.toNat t1.toNat := by
      simp only [List.mem_append, List.mem_cons, not_or]
      exact ⟨n47, by decide, prA_no 47 (.inr rfl) _ _⟩
    rw [indexByte_no 47 _ m47, if_neg (by decide), indexByte_at 45 _ _ n45, if_pos (by omega), Int.toNat_natCast, List.take_left, ← List.drop_drop, List.drop_left, List.drop_one, List.tail_cons]
    unfold rgDash
    rw [pz_prA f0 f1 w0 w1, pz_prA t0 t1 w2 w3]
    rw [if_neg (by simp), if_neg (fun x => c1 x.symm)]
theorem print_err (f0 f1 t0 t1 : Int) : (printRg f0 f1 t0 t1).2 = 0 ∨ (printRg f0 f1 t0 t1).2 = 31 := by
  unfold printRg
  split
  · exact .inr rfl
  · split
    · exact .inl rfl
    · split
      · exact .inl rfl
      · exact .inl rfl
theorem print_ok (f0 f1 t0 t1 : Int) (h : (printRg f0 f1 t0 t1).2 = 0) : cmpA f0 f1 t0 t1 ≤ 0 := by
  unfold printRg at h
  by_cases c1 : 0 < cmpA f0 f1 t0 t1 ∨ is4 f0 f1 ≠ is4 t0 t1
  · rw [if_pos c1] at h; cases h
  · exact Int.not_lt.mp (fun x => c1 (.inl x))
theorem cmpA_self (a0 a1 : Int) : cmpA a0 a1 a0 a1 = 0 := by
  rcases cmpA_cases a0 a1 a0 a1 with ⟨h, _⟩ | ⟨_, _, h⟩ | ⟨h, _⟩
  · omega
  · exact h
  · omega
theorem has_ends (f0 f1 t0 t1 : Int) (h : (printRg f0 f1 t0 t1).2 = 0) : hasR f0 f1 t0 t1 f0 f1 = true ∧ hasR f0 f1 t0 t1 t0 t1 = true := by
  have h1 := print_ok f0 f1 t0 t1 h
  unfold hasR
  rw [cmpA_self, cmpA_self, decide_eq_true h1]
  exact ⟨rfl, rfl⟩
end Go.Proofs.YtgbkeciimddpnaaGreatDoor.Ranges
