/-
The walk of the reference's Print: an address in text, as the program's.
Conditions: numbers of 64 bits.
-/
import Derived.Test.YtgbkeciimddpnaaGreatDoorAddrPr
import Derived.Test.YtgbkeciimddpnaaGreatDoorPrint5
namespace Go.Proofs.YtgbkeciimddpnaaGreatDoor.Print
open Go Go.RowKit Go.Proofs.YtgbkeciimddpnaaGreatDoorW.PrintWords Go.Proofs.YtgbkeciimddpnaaGreatDoor.AddrP

theorem hexdig_at (n : Nat) (h : n < 16) : (⟨#[48, 49, 50, 51, 52, 53, 54, 55, 56, 57, 97, 98, 99, 100, 101, 102]⟩ : ByteArray).extract n (n + 1) = mkB [dg n] := by
  have : ∀ n : Fin 16, ((⟨#[48, 49, 50, 51, 52, 53, 54, 55, 56, 57, 97, 98, 99, 100, 101, 102]⟩ : ByteArray).extract n.val (n.val + 1)).data.toList = [dg n.val] := by decide
  have h1 := this ⟨n, h⟩
  apply ByteArray.ext
  apply Array.toList_inj.mp
  exact h1
theorem mkB_app (a b : List UInt8) : mkB a ++ mkB b = mkB (a ++ b) := by
  apply ByteArray.ext
  apply Array.toList_inj.mp
  simp [mkB]
theorem mkB_size (a : List UInt8) : (mkB a).size = a.length := by show a.toArray.size = _; simp
theorem wrap_small (n : Nat) (h : n ≤ 4294967297) : wrap64 (n : Int) = (n : Int) := by unfold wrap64; omega
theorem digits_is (b : Nat) (hb : 2 ≤ b) (hb' : b ≤ 16) : ∀ (k n : Nat), n < b ^ (k + 1) → n ≤ 4294967296 → sallyportref03_digits.f (k + 1) n b = some (mkB (digs b n)) := by
  have one : ∀ (k n : Nat), n < b → sallyportref03_digits.f (k + 1) n b = some (mkB (digs b n)) := by
    intro k n hlt
    have hw : wrap64 ((n : Int) + 1) = ((n + 1 : Nat) : Int) := by unfold wrap64; omega
    rw [sallyportref03_digits.f, if_pos (by omega), if_pos (by omega), hw, if_pos (by omega), if_pos (by omega), digs_one hlt]
    have e1 : ((n : Nat) : Int).toNat = n := by omega
    have e2 : ((n + 1 : Nat) : Int).toNat = n + 1 := by omega
    rw [e1, e2, hexdig_at n (by omega)]
  intro k
  induction k with
  | zero => intro n h _; exact one 0 n (by simpa using h)
  | succ k ih =>
    intro n h hn
    by_cases hlt : n < b
    · exact one _ n hlt
    · rw [sallyportref03_digits.f]
      have hd : Int.tdiv (n : Int) (b : Int) = ((n / b : Nat) : Int) := by rw [Int.tdiv_eq_ediv_of_nonneg (by omega)]; simp
      have hm : Int.tmod (n : Int) (b : Int) = ((n % b : Nat) : Int) := by rw [Int.tmod_eq_emod_of_nonneg (by omega)]; simp
      have hq : n / b ≤ n := Nat.div_le_self _ _
      have hmod := Nat.mod_lt n (show 0 < b by omega)
      have hql : n / b < b ^ (k + 1) := Nat.div_lt_of_lt_mul (by rw [Nat.pow_succ, Nat.mul_comm] at h; exact h)
      have hdm := digs_more hlt hb
      rw [if_neg (by omega), if_neg (by omega), hd, hm, hdm]
      generalize n / b = q at hq hql
      generalize n % b = r at hmod
      rw [wrap_small q (by omega), ih q hql (by omega), one k r hmod]
      simp only [Option.bind_some]
      have hl1 := digs_len hb 59 q (by
        refine Nat.lt_of_le_of_lt hq ?_
        refine Nat.lt_of_le_of_lt hn ?_
        exact Nat.lt_of_lt_of_le (show 4294967296 < 2 ^ 60 by decide) (Nat.pow_le_pow_left hb 60))
      rw [mkB_size, mkB_size, digs_one hmod, if_pos (by simp; omega), mkB_app]
theorem digits_calls (n b : Nat) (hb : 2 ≤ b) (hb' : b ≤ 16) (hn : n ≤ 4294967296) (w : World) : Calls Tryz.prog 29 #[.int .i64 n, .int .i64 b] w fun e w' => e = .returned (.string (mkB (digs b n))) ∧ Below w.heap.size w w' :=
  sallyportref03_digits.calls 40 n b _ w (digits_is b hb hb' 39 n (Nat.lt_of_le_of_lt hn (Nat.lt_of_lt_of_le (show 4294967296 < 2 ^ 40 by decide) (Nat.pow_le_pow_left hb 40))) hn)
theorem digits_ten (z : Int) (n : Nat) (hz : z = (n : Int)) (hn : n ≤ 4294967296) (w : World) : Calls Tryz.prog 29 #[.int .i64 z, .int .i64 10] w fun e w' => e = .returned (.string (mkB (digs 10 n))) ∧ Below w.heap.size w w' := by
  rw [hz]; exact digits_calls n 10 (by omega) (by omega) hn w
theorem refIs4_calls (hi lo : Nat) (w : World) : Calls Tryz.prog 15 #[.agg #[.int .u64 hi, .int .u64 lo]] w fun e w' => e = .returned (.bool (isFour hi lo)) ∧ Below w.heap.size w w' :=
  sallyportref03_Is4.calls hi lo _ w (by
    unfold sallyportref03_Is4.f isFour
    by_cases h : hi = 0
    · subst h
      rw [if_pos (by rfl)]
      by_cases h2 : 281470681743360 ≤ lo
      · rw [if_pos (by omega)]
        congr 1
        rw [Bool.eq_iff_iff]
        simp
        omega
      · rw [if_neg (by omega)]
        congr 1
        rw [Bool.eq_iff_iff]
        simp
        omega
    · rw [if_neg (by omega), decide_eq_false h]; rfl)
theorem group_is (hi lo i x : Nat) (h1 : hi < 18446744073709551616) (h2 : lo < 18446744073709551616) (hx : (grp hi lo)[i]? = some x) : sallyportref03_group.f hi lo i = some (x : Int) := by
  have hj8 : i < 8 := by
    rcases Nat.lt_or_ge i 8 with h' | h'
    · exact h'
    · rw [List.getElem?_eq_none (by rw [grp_len]; omega)] at hx; cases hx
  have aux : ∀ n k : Nat, n < 18446744073709551616 → k < 64 → wrap64 (bits .and .u64 (shr .u64 (n : Int) (k : Int)) 65535) = ((n / 2 ^ k % 65536 : Nat) : Int) := by
    intro n k hn hk
    have e : shr .u64 (n : Int) (k : Int) = ((n / 2 ^ k : Nat) : Int) := by
      have hb : IntKind.u64.bits = 64 := rfl
      unfold shr
      rw [hb, show min ((k : Int).toNat) 64 = k by omega]
      simp
    have hle : n / 2 ^ k ≤ n := Nat.div_le_self _ _
    rw [e]
    generalize n / 2 ^ k = q at hle
    have := bits_mask .u64 64 (by decide) (fun n k0 k1 => IntWalk.u64_in n (by omega)) 16 (by omega) (q : Int) (by omega) (by omega)
    have h3 : bits .and .u64 (q : Int) 65535 = (q : Int) % 65536 := by simpa using this
    rw [h3]
    unfold wrap64
    omega
  have sh1 : ∀ i : Nat, i < 4 → IntKind.u64.wrap (wrap64 (48 - wrap64 (16 * (i : Int)))) = ((48 - 16 * i : Nat) : Int) := by
    intro i hi
    have e1 : wrap64 (16 * (i : Int)) = 16 * i := by unfold wrap64; omega
    have e2 : wrap64 (48 - 16 * (i : Int)) = 48 - 16 * i := by unfold wrap64; omega
    rw [e1, e2, IntWalk.u64_in _ (by omega)]
    omega
  have sh2 : ∀ i : Nat, 4 ≤ i → i < 8 → IntKind.u64.wrap (wrap64 (112 - wrap64 (16 * (i : Int)))) = ((112 - 16 * i : Nat) : Int) := by
    intro i hi hi'
    have e1 : wrap64 (16 * (i : Int)) = 16 * i := by unfold wrap64; omega
    have e2 : wrap64 (112 - 16 * (i : Int)) = 112 - 16 * i := by unfold wrap64; omega
    rw [e1, e2, IntWalk.u64_in _ (by omega)]
    omega
  unfold sallyportref03_group.f
  by_cases hi4 : i < 4
  · rw [if_pos (by omega), sh1 i hi4, if_pos (by omega), aux hi _ h1 (by omega)]
    congr 1
    unfold grp quad at hx
    rcases (by omega : i = 0 ∨ i = 1 ∨ i = 2 ∨ i = 3) with rfl | rfl | rfl | rfl <;>
      (simp only [List.cons_append, List.nil_append, List.getElem?_cons_zero, List.getElem?_cons_succ, Option.some.injEq] at hx; subst hx; simp)
  · rw [if_neg (by omega), sh2 i (by omega) hj8, if_pos (by omega), aux lo _ h2 (by omega)]
    congr 1
    unfold grp quad at hx
    rcases (by omega : i = 4 ∨ i = 5 ∨ i = 6 ∨ i = 7) with rfl | rfl | rfl | rfl <;>
      (simp only [List.cons_append, List.nil_append, List.getElem?_cons_zero, List.getElem?_cons_succ, Option.some.injEq] at hx; subst hx; simp)
theorem group_calls (hi lo i x : Nat) (h1 : hi < 18446744073709551616) (h2 : lo < 18446744073709551616) (hx : (grp hi lo)[i]? = some x) (w : World) :
    Calls Tryz.prog 44 #[.agg #[.int .u64 hi, .int .u64 lo], .int .i64 i] w fun e w' => e = .returned (.int .i64 x) ∧ Below w.heap.size w w' :=
  sallyportref03_group.calls hi lo i x w (group_is hi lo i x h1 h2 hx)

theorem dots_four (a b c d : List UInt8) : mkB a ++ ⟨#[46]⟩ ++ mkB b ++ ⟨#[46]⟩ ++ mkB c ++ ⟨#[46]⟩ ++ mkB d = mkB (Lib.join [a, b, c, d] [46]) := by
  apply ByteArray.ext
  apply Array.toList_inj.mp
  rw [Lib.join_cons]
  simp [mkB, Lib.joinTail]
set_option maxRecDepth 100000 in
set_option maxHeartbeats 6400000 in
theorem refPrint_four (lo m : Nat) (hlo : lo = 281470681743360 + m) (hm : m < 4294967296) (w : World) (hi4 : ∀ w1 : World, Calls Tryz.prog 15 #[.agg #[.int .u64 0, .int .u64 lo]] w1 fun e w' => e = .returned (.bool true) ∧ Below w1.heap.size w1 w') :
    Calls Tryz.prog 28 #[.agg #[.int .u64 0, .int .u64 lo]] w fun e w' => e = .returned (.string (mkB (pr4 lo))) ∧ Below w.heap.size w w' := by
  have HI := Lib.hid hi4
  have hf : four lo = [m / 16777216, m / 65536 % 256, m / 256 % 256, m % 256] := by unfold four; simp only [List.cons.injEq, and_true]; omega
  obtain ⟨A, hA⟩ : ∃ A, A = mkB (digs 10 (m / 16777216)) := ⟨_, rfl⟩
  obtain ⟨B, hB⟩ : ∃ B, B = mkB (digs 10 (m / 65536 % 256)) := ⟨_, rfl⟩
  obtain ⟨C, hC⟩ : ∃ C, C = mkB (digs 10 (m / 256 % 256)) := ⟨_, rfl⟩
  obtain ⟨D, hD⟩ : ∃ D, D = mkB (digs 10 (m % 256)) := ⟨_, rfl⟩
  have hlen : ∀ n, n < 256 → (mkB (digs 10 n)).size ≤ 3 := fun n hn => by rw [mkB_size]; exact digs_len (b := 10) (by omega) 2 n (by omega)
  have lA : A.size ≤ 3 := by rw [hA]; exact hlen _ (by omega)
  have lB : B.size ≤ 3 := by rw [hB]; exact hlen _ (by omega)
  have lC : C.size ≤ 3 := by rw [hC]; exact hlen _ (by omega)
  have lD : D.size ≤ 3 := by rw [hD]; exact hlen _ (by omega)
  have hres : A ++ ⟨#[46]⟩ ++ B ++ ⟨#[46]⟩ ++ C ++ ⟨#[46]⟩ ++ D = mkB (pr4 lo) := by
    unfold pr4
    rw [hf, hA, hB, hC, hD, dots_four]
    rfl
  have cA := fun w => digits_ten ((m : Int) / 16777216) (m / 16777216) (by omega) (by omega) w
  have cB := fun w => digits_ten ((m : Int) / 65536 % 256) (m / 65536 % 256) (by omega) (by omega) w
  have cC := fun w => digits_ten ((m : Int) / 256 % 256) (m / 256 % 256) (by omega) (by omega) w
  have cD := fun w => digits_ten ((m : Int) % 256) (m % 256) (by omega) (by omega) w
  rw [← hA] at cA
  rw [← hB] at cB
  rw [← hC] at cC
  rw [← hD] at cD
  have HA := Lib.hid cA
  have HB := Lib.hid cB
  have HC := Lib.hid cC
  have HD := Lib.hid cD
  have HR := Lib.hid hres
  have hlo2 : (lo : Int) = 281470681743360 + m := by omega
  have hsub : IntKind.u64.wrap ((lo : Int) - 281470681743360) = (m : Int) := by rw [hlo2]; rw [IntWalk.u64_in _ (by omega)]; omega
  have hlo0 : (lo : Int) ≤ 18446744073709551615 := by omega
  clear hi4 hf hlen hres hA hB hC hD cA cB cC cD hlo hlo2
  go_enter Tryz.func28, Tryz.ntmps28
  go_wp2_with (go_at_call 15; refine (HI.out _).mono ?_; rintro e w1 ⟨rfl, hb1⟩; have hx1 : w1.cell? ⟨w.heap.size, 1, none⟩ = some (.int .u64 lo) := (hb1.cell (p := ⟨w.heap.size, 1, none⟩) (by simp)).trans (by go_simp))
  have hB1 := (ba1 w (.cells #[.int .u64 0, .int .u64 lo] 24)).trans (hb1.mono (by simp))
  clear hb1 hx1
  refine (HA.out _).mono ?_
  rintro e w2 ⟨rfl, hb2⟩
  have hB2 := bnext hB1 hb2
  clear hb2
  have z1 : ¬ 9223372036854775807 < A.size + 1 := by omega
  go_wp2_with fail
  refine (HB.out _).mono ?_
  rintro e w3 ⟨rfl, hb3⟩
  have hB3 := bnext hB2 hb3
  clear hb3 z1
  have z2 : ¬ 9223372036854775807 < A.size + 1 + B.size := by omega
  have z3 : ¬ 9223372036854775807 < A.size + 1 + B.size + 1 := by omega
  go_wp2_with fail
  refine (HC.out _).mono ?_
  rintro e w4 ⟨rfl, hb4⟩
  have hB4 := bnext hB3 hb4
  clear hb4 z2 z3
  have z4 : ¬ 9223372036854775807 < A.size + 1 + B.size + 1 + C.size := by omega
  have z5 : ¬ 9223372036854775807 < A.size + 1 + B.size + 1 + C.size + 1 := by omega
  go_wp2_with fail
  refine (HD.out _).mono ?_
  rintro e w5 ⟨rfl, hb5⟩
  have hB5 := bnext hB4 hb5
  clear hb5 z4 z5
  have z6 : ¬ 9223372036854775807 < A.size + 1 + B.size + 1 + C.size + 1 + D.size := by omega
  go_wp2_with fail
  go_ret
  exact ⟨ret_str HR.out, hB5⟩

/-! The eight groups. -/
/-- One group more, in text. -/
def more (out h : List UInt8) : List UInt8 := if out = [] ∨ out.getLast? = some 58 then out ++ h else out ++ 58 :: h
theorem hexs_snoc (l : List Nat) (n : Nat) (h : l ≠ []) : hexs (l ++ [n]) = hexs l ++ 58 :: digs 16 n := by
  unfold hexs
  rw [List.map_append]
  cases hl : l.map (digs 16) with
  | nil => simp at hl; exact absurd hl h
  | cons x r => simp [Lib.join_cons, Lib.joinTail]
theorem hexs_last (l : List Nat) (h : l ≠ []) : (hexs l).getLast? ≠ some 58 ∧ hexs l ≠ [] := by
  obtain ⟨m, n, rfl⟩ : ∃ m n, l = m ++ [n] := ⟨l.dropLast, l.getLast h, (List.dropLast_concat_getLast h).symm⟩
  have hd := digs_ne 16 n (by omega)
  have hl : (digs 16 n).getLast? ≠ some 58 := by
    intro e
    have := List.mem_of_getLast? e
    exact (digs_no (by omega) (by omega) n _ this).1 rfl
  by_cases hm : m = []
  · subst hm
    have : hexs ([] ++ [n]) = digs 16 n := by simp [hexs, Lib.join_one]
    rw [this]
    exact ⟨hl, hd⟩
  · rw [hexs_snoc m n hm]
    constructor
    · rw [List.getLast?_append, List.getLast?_cons]
      cases hg : (digs 16 n).getLast? with
      | none => exact absurd (List.getLast?_eq_none_iff.mp hg) hd
      | some c => rw [hg] at hl; simpa using hl
    · simp
theorem more_hexs (l : List Nat) (n : Nat) : more (hexs l) (digs 16 n) = hexs (l ++ [n]) := by
  unfold more
  by_cases h : l = []
  · subst h
    have e0 : hexs [] = [] := rfl
    rw [e0, if_pos (Or.inl rfl)]
    simp [hexs, Lib.join_one]
  · obtain ⟨h1, h2⟩ := hexs_last l h
    rw [if_neg (by rintro (e | e); exact h2 e; exact h1 e), hexs_snoc l n h]
theorem more_tail (P : List UInt8) (l : List Nat) (n : Nat) : more (P ++ [58, 58] ++ hexs l) (digs 16 n) = P ++ [58, 58] ++ hexs (l ++ [n]) := by
  unfold more
  by_cases h : l = []
  · subst h
    have e : P ++ [58, 58] ++ hexs [] = P ++ [58, 58] := by simp [hexs, Lib.join_nil]
    rw [e, if_pos (Or.inr (by simp))]
    simp [hexs, Lib.join_one]
  · obtain ⟨h1, h2⟩ := hexs_last l h
    rw [if_neg, hexs_snoc l n h]
    · simp
    · rintro (e | e)
      · simp at e
      · rw [List.getLast?_append] at e
        cases hg : (hexs l).getLast? with
        | none => exact absurd (List.getLast?_eq_none_iff.mp hg) h2
        | some c => rw [hg] at e h1; simp at e; exact h1 (by rw [e])
/-- What is laid ahead of group k. -/
def outTo (g : List Nat) (at_ long k : Nat) : List UInt8 := if k ≤ at_ then hexs (g.take k) else hexs (g.take at_) ++ [58, 58] ++ hexs ((g.take k).drop (at_ + long))
theorem outTo_before (g : List Nat) (at_ long k x : Nat) (hk : k < at_) (hx : g[k]? = some x) : outTo g at_ long (k + 1) = more (outTo g at_ long k) (digs 16 x) := by
  unfold outTo
  rw [if_pos (by omega), if_pos (by omega), more_hexs, List.take_add_one, hx]
  rfl
theorem outTo_behind (g : List Nat) (at_ long k x : Nat) (hk : at_ + long ≤ k) (h1 : 1 ≤ long) (hx : g[k]? = some x) : outTo g at_ long (k + 1) = more (outTo g at_ long k) (digs 16 x) := by
  unfold outTo
  have hlen : k < g.length := by
    rcases Nat.lt_or_ge k g.length with h | h
    · exact h
    · rw [List.getElem?_eq_none h] at hx; cases hx
  rw [if_neg (by omega), if_neg (by omega), more_tail, List.take_add_one, hx, List.drop_append_of_le_length (by rw [List.length_take]; omega)]
  rfl
theorem outTo_jump (g : List Nat) (at_ long : Nat) (h1 : 1 ≤ long) (hl : at_ + long ≤ g.length) : outTo g at_ long (at_ + long) = outTo g at_ long at_ ++ [58, 58] := by
  unfold outTo
  rw [if_neg (by omega), if_pos (Nat.le_refl _), List.drop_eq_nil_of_le (by rw [List.length_take]; omega)]
  simp [hexs, Lib.join_nil]
end Go.Proofs.YtgbkeciimddpnaaGreatDoor.Print
