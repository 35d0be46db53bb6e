/-
Plain laws about the texts of addresses: digits, cutting at a byte, joining, the first double colon; no program in sight.
Conditions: none but what each lemma says.
-/
import Derived.Lib.SplitLaws
import Derived.Lib.CutLaws
import Derived.Lib.Join
import Derived.Lib.ItoaNum
import Derived.Lib.SlTrimSet
namespace Go.Proofs.YtgbkeciimddpnaaGreatDoor.AddrP
open Go

/-- One digit. -/
def dg (n : Nat) : UInt8 := if n < 10 then UInt8.ofNat (48 + n) else UInt8.ofNat (87 + n)
/-- The digits of n to the base b, the first ahead. -/
def digs (b n : Nat) : List UInt8 := if _h : n < b ∨ b < 2 then [dg n] else digs b (n / b) ++ [dg (n % b)]
termination_by n
decreasing_by exact Nat.div_lt_self (by omega) (by omega)

theorem digs_one {b n : Nat} (h : n < b) : digs b n = [dg n] := by rw [digs, dif_pos (Or.inl h)]
theorem digs_more {b n : Nat} (h : ¬ n < b) (hb : 2 ≤ b) : digs b n = digs b (n / b) ++ [dg (n % b)] := by rw [digs, dif_neg (by omega)]
theorem digs_ten (n : Nat) : digs 10 n = Lib.decDigits n := by
  induction n using Nat.strongRecOn with
  | _ n ih =>
    by_cases h : n < 10
    · rw [digs_one h, Lib.decDigits, dif_pos h]; unfold dg; rw [if_pos h]
    · rw [digs_more h (by omega), Lib.decDigits, dif_neg h, ih (n / 10) (by omega)]; unfold dg; rw [if_pos (by omega)]
theorem digs_ne (b n : Nat) (hb : 2 ≤ b) : digs b n ≠ [] := by
  by_cases h : n < b
  · rw [digs_one h]; simp
  · rw [digs_more h hb]; simp
/-- Each byte of them is a digit below the base. -/
theorem digs_mem {b : Nat} (hb : 2 ≤ b) (n : Nat) : ∀ c ∈ digs b n, ∃ d, d < b ∧ c = dg d := by
  induction n using Nat.strongRecOn with
  | _ n ih =>
    intro c hc
    by_cases h : n < b
    · rw [digs_one h] at hc; simp at hc; exact ⟨n, h, hc⟩
    · rw [digs_more h hb] at hc
      simp only [List.mem_append, List.mem_singleton] at hc
      rcases hc with hc | hc
      · exact ih (n / b) (Nat.div_lt_self (by omega) (by omega)) c hc
      · exact ⟨n % b, Nat.mod_lt _ (by omega), hc⟩
theorem digs_len {b : Nat} (hb : 2 ≤ b) (k : Nat) : ∀ n, n < b ^ (k + 1) → (digs b n).length ≤ k + 1 := by
  induction k with
  | zero => intro n h; rw [digs_one (by simpa using h)]; simp
  | succ k ih =>
    intro n h
    by_cases h' : n < b
    · rw [digs_one h']; simp
    · rw [digs_more h' hb, List.length_append]
      have := ih (n / b) (Nat.div_lt_of_lt_mul (by rw [Nat.pow_succ, Nat.mul_comm] at h; exact h))
      simp; omega
theorem dg_no (d : Nat) (h : d < 16) : dg d ≠ 58 ∧ dg d ≠ 46 ∧ dg d ≠ 45 ∧ dg d ≠ 47 := by
  have : ∀ d : Fin 16, dg d.val ≠ 58 ∧ dg d.val ≠ 46 ∧ dg d.val ≠ 45 ∧ dg d.val ≠ 47 := by decide
  exact this ⟨d, h⟩
theorem digs_no {b : Nat} (hb : 2 ≤ b) (hb' : b ≤ 16) (n : Nat) : ∀ c ∈ digs b n, c ≠ 58 ∧ c ≠ 46 ∧ c ≠ 45 ∧ c ≠ 47 := by
  intro c hc
  obtain ⟨d, hd, rfl⟩ := digs_mem hb n c hc
  exact dg_no d (by omega)

/-- A text, cut at each of some byte. -/
def cutAt (c : UInt8) : List UInt8 → List (List UInt8)
  | [] => [[]]
  | b :: l => if b = c then [] :: cutAt c l else match cutAt c l with
    | [] => [[b]]
    | x :: r => (b :: x) :: r
theorem cutAt_ne (c : UInt8) : ∀ l, cutAt c l ≠ []
  | [] => by simp [cutAt]
  | b :: l => by
    unfold cutAt
    split
    · simp
    · split <;> simp
theorem split_cutAt (c : UInt8) : ∀ l, Lib.split l [c] = cutAt c l
  | [] => rfl
  | b :: l => by
    have ih := split_cutAt c l
    unfold Lib.split at ih ⊢
    by_cases h : b = c
    · subst h
      rw [Lib.count_cons_eq, Nat.add_comm, Lib.splitK]
      have hi : Lib.index (b :: l) [b] = 0 := Lib.index_first (i := 0) (Nat.zero_le _) (by simp [Lib.occAt]) (fun _ h => absurd h (Nat.not_lt_zero _))
      rw [hi, if_neg (by decide), cutAt, if_pos rfl, ← ih]
      rfl
    · rw [Lib.count_cons_ne _ _ _ h, cutAt, if_neg h, ← ih]
      have hp : ([c] : List UInt8).isPrefixOf (b :: l) = false := by simp [List.isPrefixOf]; exact fun e => h e.symm
      have hidx : Lib.index (b :: l) [c] = if Lib.index l [c] == -1 then -1 else Lib.index l [c] + 1 := by
        rw [Lib.index, hp]; simp
      cases hk : Lib.count l [c] with
      | zero => rfl
      | succ k =>
        have hne : ¬ (Lib.index l [c] == -1) = true := fun e => by
          have := Lib.count_miss (s := l) (sub := [c]) (by simpa using e)
          omega
        have hge := Lib.index_ge l [c]
        have hge0 : 0 ≤ Lib.index l [c] := by
          have : Lib.index l [c] ≠ -1 := by simpa using hne
          omega
        rw [Lib.splitK, Lib.splitK, hidx, if_neg hne, if_neg hne]
        rw [if_neg (by simp; omega)]
        have e : (Lib.index l [c] + 1).toNat = (Lib.index l [c]).toNat + 1 := by omega
        rw [e]
        simp [Nat.add_assoc]
theorem cutAt_none (c : UInt8) : ∀ x : List UInt8, c ∉ x → cutAt c x = [x]
  | [], _ => rfl
  | b :: l, h => by
    simp only [List.mem_cons, not_or] at h
    rw [cutAt, if_neg (fun e => h.1 e.symm), cutAt_none c l h.2]
theorem cutAt_app (c : UInt8) (l : List UInt8) : ∀ x : List UInt8, c ∉ x → cutAt c (x ++ c :: l) = x :: cutAt c l
  | [], _ => by rw [List.nil_append, cutAt, if_pos rfl]
  | b :: x, h => by
    simp only [List.mem_cons, not_or] at h
    rw [List.cons_append, cutAt, if_neg (fun e => h.1 e.symm), cutAt_app c l x h.2]
theorem cutAt_tail (c : UInt8) : ∀ (r : List (List UInt8)) (x : List UInt8), c ∉ x → (∀ y ∈ r, c ∉ y) → cutAt c (x ++ Lib.joinTail [c] r) = x :: r
  | [], x, hx, _ => by simp [Lib.joinTail, cutAt_none c x hx]
  | y :: r, x, hx, hr => by
    have ih := cutAt_tail c r y (hr y (by simp)) (fun z hz => hr z (by simp [hz]))
    have e : Lib.joinTail [c] (y :: r) = c :: (y ++ Lib.joinTail [c] r) := by simp [Lib.joinTail]
    rw [e, cutAt_app c _ x hx, ih]
theorem cutAt_join (c : UInt8) (xs : List (List UInt8)) (hne : xs ≠ []) (h : ∀ y ∈ xs, c ∉ y) : cutAt c (Lib.join xs [c]) = xs := by
  cases xs with
  | nil => exact absurd rfl hne
  | cons x r => rw [Lib.join_cons]; exact cutAt_tail c r x (h x (by simp)) (fun y hy => h y (by simp [hy]))

/-- Around the first double colon. -/
def cut2 : List UInt8 → Option (List UInt8 × List UInt8)
  | [] => none
  | [_] => none
  | a :: b :: l => if a = 58 ∧ b = 58 then some ([], l) else (cut2 (b :: l)).map fun p => (a :: p.1, p.2)
theorem index_cut2 : ∀ l : List UInt8, Lib.index l [58, 58] = match cut2 l with | none => -1 | some p => (p.1.length : Int)
  | [] => rfl
  | [a] => by simp [Lib.index, cut2, List.isPrefixOf]
  | a :: b :: l => by
    have ih := index_cut2 (b :: l)
    rw [Lib.index, cut2]
    by_cases h : a = 58 ∧ b = 58
    · rw [if_pos h, if_pos (by simp [List.isPrefixOf, h.1, h.2])]; rfl
    · rw [if_neg h, if_neg (by simp [List.isPrefixOf]; exact fun e1 e2 => h ⟨e1.symm, e2.symm⟩), ih]
      cases cut2 (b :: l) with
      | none => rfl
      | some p => simp
theorem cut2_parts : ∀ (l : List UInt8) p, cut2 l = some p → l = p.1 ++ 58 :: 58 :: p.2
  | [], p, h => by simp [cut2] at h
  | [a], p, h => by simp [cut2] at h
  | a :: b :: l, p, h => by
    rw [cut2] at h
    by_cases hh : a = 58 ∧ b = 58
    · rw [if_pos hh] at h
      obtain rfl := Option.some.inj h
      simp [hh.1, hh.2]
    · rw [if_neg hh] at h
      cases hc : cut2 (b :: l) with
      | none => rw [hc] at h; cases h
      | some q =>
        rw [hc] at h
        obtain rfl := Option.some.inj h
        have := cut2_parts (b :: l) q hc
        simp [this]
theorem cut_cut2 (l : List UInt8) : Lib.cut l [58, 58] = match cut2 l with | none => (l, [], false) | some p => (p.1, p.2, true) := by
  have h := index_cut2 l
  unfold Lib.cut
  cases hc : cut2 l with
  | none => rw [hc] at h; rw [h]; rfl
  | some p =>
    rw [hc] at h
    simp only at h
    rw [h, if_pos (by omega)]
    have := cut2_parts l p hc
    have e : ((p.1.length : Nat) : Int).toNat = p.1.length := by omega
    rw [e]
    have t1 : l.take p.1.length = p.1 := by rw [this]; simp
    have t2 : l.drop (p.1.length + ([58, 58] : List UInt8).length) = p.2 := by rw [this, ← List.drop_drop]; simp
    rw [t1, t2]
/-- A piece without colons ahead. -/
theorem cut2_app (r : List UInt8) : ∀ x : List UInt8, 58 ∉ x → cut2 (x ++ r) = (cut2 r).map fun p => (x ++ p.1, p.2)
  | [], _ => by cases h : cut2 r <;> simp [h]
  | a :: x, h => by
    simp only [List.mem_cons, not_or] at h
    have ih := cut2_app r x h.2
    cases hx : x ++ r with
    | nil =>
      have hr : r = [] := (List.append_eq_nil_iff.mp hx).2
      rw [List.cons_append, hx, hr]; rfl
    | cons b l =>
      rw [List.cons_append, hx, cut2, if_neg (fun e => h.1 e.1.symm), ← hx, ih]
      cases cut2 r <;> simp
theorem cut2_colon (r : List UInt8) (a : UInt8) (x : List UInt8) (ha : a ≠ 58) : cut2 (58 :: (a :: x ++ r)) = (cut2 (a :: x ++ r)).map fun p => (58 :: p.1, p.2) := by
  rw [List.cons_append, cut2, if_neg (fun e => ha e.2)]
theorem cut2_tail (l : List UInt8) : ∀ (r : List (List UInt8)) (x : List UInt8), 58 ∉ x → (∀ y ∈ r, y ≠ [] ∧ 58 ∉ y) → cut2 (x ++ (Lib.joinTail [58] r ++ l)) = (cut2 l).map fun p => (x ++ Lib.joinTail [58] r ++ p.1, p.2)
  | [], x, hx, _ => by rw [cut2_app _ x hx]; simp [Lib.joinTail]
  | y :: r, x, hx, hr => by
    have ih := cut2_tail l r y (hr y (by simp)).2 (fun z hz => hr z (by simp [hz]))
    have e : Lib.joinTail [58] (y :: r) = 58 :: (y ++ Lib.joinTail [58] r) := by simp [Lib.joinTail]
    rw [cut2_app _ x hx, e]
    obtain ⟨h1, h2⟩ := hr y (by simp)
    cases y with
    | nil => exact absurd rfl h1
    | cons a y =>
      simp only [List.mem_cons, not_or] at h2
      rw [List.cons_append, List.append_assoc, cut2_colon _ a y (fun e => h2.1 e.symm), ih]
      cases cut2 l <;> simp
/-- Groups that are none of them empty, with colons between: the first double colon is what comes behind. -/
theorem cut2_join (xs : List (List UInt8)) (h : ∀ y ∈ xs, y ≠ [] ∧ 58 ∉ y) (l : List UInt8) : cut2 (Lib.join xs [58] ++ l) = (cut2 l).map fun p => (Lib.join xs [58] ++ p.1, p.2) := by
  cases xs with
  | nil => rw [Lib.join_nil]; cases hl : cut2 l <;> simp [hl]
  | cons x r =>
    rw [Lib.join_cons, List.append_assoc, cut2_tail l r x (h x (by simp)).2 (fun y hy => h y (by simp [hy]))]
theorem cut2_two (xs ys : List (List UInt8)) (h : ∀ y ∈ xs, y ≠ [] ∧ 58 ∉ y) : cut2 (Lib.join xs [58] ++ 58 :: 58 :: Lib.join ys [58]) = some (Lib.join xs [58], Lib.join ys [58]) := by
  rw [cut2_join xs h, cut2, if_pos ⟨rfl, rfl⟩]
  simp
theorem cut2_no (xs : List (List UInt8)) (h : ∀ y ∈ xs, y ≠ [] ∧ 58 ∉ y) : cut2 (Lib.join xs [58]) = none := by
  have := cut2_join xs h []
  rw [List.append_nil] at this
  rw [this]; rfl
theorem join_no (c d : UInt8) (hcd : c ≠ d) (xs : List (List UInt8)) (h : ∀ y ∈ xs, c ∉ y) : c ∉ Lib.join xs [d] := by
  cases xs with
  | nil => simp [Lib.join_nil]
  | cons x r =>
    rw [Lib.join_cons, List.mem_append, not_or]
    refine ⟨h x (by simp), ?_⟩
    unfold Lib.joinTail
    intro hm
    simp only [List.mem_flatten, List.mem_map] at hm
    obtain ⟨_, ⟨y, hy, rfl⟩, hm⟩ := hm
    simp only [List.singleton_append, List.mem_cons] at hm
    rcases hm with e | e
    · exact hcd e
    · exact h y (by simp [hy]) e
theorem join_nil_iff (xs : List (List UInt8)) (h : ∀ y ∈ xs, y ≠ []) : Lib.join xs [58] = [] ↔ xs = [] := by
  cases xs with
  | nil => simp [Lib.join_nil]
  | cons x r => rw [Lib.join_cons]; simp [h x (by simp)]

/-! Reading hexadecimal groups. -/
/-- A digit as the program takes it; large letters too. -/
def hexd (c : UInt8) : Option Nat :=
  if 48 ≤ c.toNat ∧ c.toNat ≤ 57 then some (c.toNat - 48)
  else if 97 ≤ (c ||| 32).toNat ∧ (c ||| 32).toNat ≤ 102 then some ((c ||| 32).toNat - 87) else none
def pu (acc : Nat) : List UInt8 → Option Nat
  | [] => some acc
  | c :: l => match hexd c with
    | none => none
    | some d => if acc * 16 + d ≤ 65535 then pu (acc * 16 + d) l else none
theorem pu_app : ∀ (l1 l2 : List UInt8) (acc : Nat), pu acc (l1 ++ l2) = (pu acc l1).bind fun a => pu a l2
  | [], _, _ => rfl
  | c :: l1, l2, acc => by
    rw [List.cons_append, pu, pu]
    cases hexd c with
    | none => rfl
    | some d =>
      simp only
      split
      · exact pu_app l1 l2 _
      · rfl
theorem hexd_dg (d : Nat) (h : d < 16) : hexd (dg d) = some d := by
  have : ∀ d : Fin 16, hexd (dg d.val) = some d.val := by decide
  exact this ⟨d, h⟩
theorem pu_digs (n : Nat) (h : n ≤ 65535) : pu 0 (digs 16 n) = some n := by
  induction n using Nat.strongRecOn with
  | _ n ih =>
    by_cases h' : n < 16
    · rw [digs_one h', pu, hexd_dg n h']
      simp only
      rw [if_pos (by omega), pu]
      simp
    · rw [digs_more h' (by omega), pu_app, ih (n / 16) (by omega) (by omega)]
      simp only [Option.bind_some]
      rw [pu, hexd_dg _ (by omega)]
      simp only
      rw [if_pos (by omega), pu]
      congr 1; omega

/-! Numbers of R6. -/
def val10 (acc : Nat) : List UInt8 → Nat
  | [] => acc
  | c :: l => val10 (acc * 10 + (c.toNat - 48)) l
def digit10 (c : UInt8) : Bool := decide (48 ≤ c.toNat) && decide (c.toNat ≤ 57)
/-- A number that may be, in a text. -/
def numL (s : List UInt8) : Option Nat :=
  if s = [] ∨ 10 < s.length ∨ (s.head? = some 48 ∧ 1 < s.length) ∨ s.all digit10 = false then none else some (val10 0 s)
theorem val10_app : ∀ (l1 l2 : List UInt8) (acc : Nat), val10 acc (l1 ++ l2) = val10 (val10 acc l1) l2
  | [], _, _ => rfl
  | c :: l1, l2, acc => by
    show val10 (acc * 10 + (c.toNat - 48)) (l1 ++ l2) = val10 (val10 (acc * 10 + (c.toNat - 48)) l1) l2
    exact val10_app l1 l2 _
theorem val10_one (a : Nat) (c : UInt8) : val10 a [c] = a * 10 + (c.toNat - 48) := rfl
theorem dg_ten (d : Nat) (h : d < 10) : (dg d).toNat = 48 + d := by
  have : ∀ d : Fin 10, (dg d.val).toNat = 48 + d.val := by decide
  exact this ⟨d, h⟩
theorem val10_digs (n : Nat) : val10 0 (digs 10 n) = n := by
  induction n using Nat.strongRecOn with
  | _ n ih =>
    by_cases h' : n < 10
    · rw [digs_one h', val10_one, dg_ten n h']; omega
    · rw [digs_more h' (by omega), val10_app, ih (n / 10) (by omega), val10_one, dg_ten _ (by omega)]; omega
theorem digs_all10 (n : Nat) : (digs 10 n).all digit10 = true := by
  rw [List.all_eq_true]
  intro c hc
  obtain ⟨d, hd, rfl⟩ := digs_mem (by omega) n c hc
  unfold digit10
  rw [dg_ten d hd]
  simp; omega
theorem digs_head (n : Nat) (h : 0 < n) : (digs 10 n).head? ≠ some 48 := by
  induction n using Nat.strongRecOn with
  | _ n ih =>
    by_cases h' : n < 10
    · rw [digs_one h']
      simp only [List.head?_cons, ne_eq, Option.some.injEq]
      intro e
      have := dg_ten n h'
      rw [e] at this
      have e48 : (48 : UInt8).toNat = 48 := rfl
      omega
    · rw [digs_more h' (by omega), List.head?_append]
      have := ih (n / 10) (by omega) (by omega)
      cases hd : (digs 10 (n / 10)).head? with
      | none => exact absurd (List.head?_eq_none_iff.mp hd) (digs_ne 10 _ (by omega))
      | some c => rw [hd] at this; simpa using this
theorem numL_digs (n : Nat) (h : n < 10000000000) : numL (digs 10 n) = some n := by
  unfold numL
  rw [if_neg, val10_digs]
  rintro (e | e | ⟨e1, e2⟩ | e)
  · exact digs_ne 10 n (by omega) e
  · have := digs_len (b := 10) (by omega) 9 n (by simpa using h); omega
  · by_cases h0 : n = 0
    · subst h0; rw [digs_one (by omega)] at e2; simp at e2
    · exact digs_head n (by omega) e1
  · rw [digs_all10] at e; cases e
/-! Printing. -/
/-- How many zeros stand ahead. -/
def zrun : List Nat → Nat
  | [] => 0
  | n :: l => if n = 0 then zrun l + 1 else 0
theorem zrun_le : ∀ l, zrun l ≤ l.length
  | [] => by simp [zrun]
  | n :: l => by
    unfold zrun
    have := zrun_le l
    split
    · simp; omega
    · simp
theorem zrun_take : ∀ (l : List Nat) (k : Nat), k ≤ zrun l → l.take k = List.replicate k 0
  | [], k, h => by
    have : k = 0 := by simpa [zrun] using h
    subst this; rfl
  | n :: l, 0, _ => rfl
  | n :: l, k + 1, h => by
    unfold zrun at h
    split at h
    · next e =>
      subst e
      rw [List.take_succ_cons, zrun_take l k (by omega), List.replicate_succ]
    · omega
def bestStep (g : List Nat) (p : Nat × Nat) (i : Nat) : Nat × Nat := if p.2 < zrun (g.drop i) then (i, zrun (g.drop i)) else p
/-- Where the longest zeros stand first, and how many. -/
def best (g : List Nat) : Nat × Nat := (List.range 8).foldl (bestStep g) (0, 0)
theorem best_inv (g : List Nat) : ∀ (is : List Nat) (p : Nat × Nat), p.2 ≤ zrun (g.drop p.1) → (is.foldl (bestStep g) p).2 ≤ zrun (g.drop (is.foldl (bestStep g) p).1)
  | [], p, h => h
  | i :: is, p, h => by
    rw [List.foldl_cons]
    apply best_inv g is
    unfold bestStep
    split
    · exact Nat.le_refl _
    · exact h
theorem best_zeros (g : List Nat) : (best g).2 ≤ zrun (g.drop (best g).1) := best_inv g _ _ (Nat.zero_le _)
theorem best_parts (g : List Nat) (h : 1 ≤ (best g).2) : (best g).1 + (best g).2 ≤ g.length ∧ g = g.take (best g).1 ++ List.replicate (best g).2 0 ++ g.drop ((best g).1 + (best g).2) := by
  have hz := best_zeros g
  generalize best g = p at h hz
  have hl := zrun_le (g.drop p.1)
  rw [List.length_drop] at hl
  refine ⟨by omega, ?_⟩
  rw [← zrun_take _ _ hz, ← List.drop_drop, List.append_assoc, List.take_append_drop, List.take_append_drop]

/-- Groups in digits, with colons between. -/
def hexs (l : List Nat) : List UInt8 := Lib.join (l.map (digs 16)) [58]
def pr6 (g : List Nat) : List UInt8 := if (best g).2 < 2 then hexs g else hexs (g.take (best g).1) ++ [58, 58] ++ hexs (g.drop ((best g).1 + (best g).2))
def four (n : Nat) : List Nat := [n / 16777216 % 256, n / 65536 % 256, n / 256 % 256, n % 256]
def pr4 (n : Nat) : List UInt8 := Lib.join ((four n).map (digs 10)) [46]
/-- The groups of 64 bits. -/
def quad (n : Nat) : List Nat := [n / 281474976710656 % 65536, n / 4294967296 % 65536, n / 65536 % 65536, n % 65536]
def grp (hi lo : Nat) : List Nat := quad hi ++ quad lo
def isFour (hi lo : Nat) : Bool := decide (hi = 0) && decide (lo / 4294967296 = 65535)
/-- What is printed. -/
def prA (hi lo : Nat) : List UInt8 := if isFour hi lo = true then pr4 lo else pr6 (grp hi lo)

theorem hexs_ok (l : List Nat) : ∀ y ∈ l.map (digs 16), y ≠ [] ∧ (58 : UInt8) ∉ y := by
  intro y hy
  obtain ⟨n, _, rfl⟩ := List.mem_map.mp hy
  exact ⟨digs_ne 16 n (by omega), fun h => (digs_no (by omega) (by omega) n _ h).1 rfl⟩
theorem hexs_no46 (l : List Nat) : (46 : UInt8) ∉ hexs l := join_no 46 58 (by decide) _ (by
  intro y hy
  obtain ⟨n, _, rfl⟩ := List.mem_map.mp hy
  exact fun h => (digs_no (by omega) (by omega) n _ h).2.1 rfl)
theorem pr6_no46 (g : List Nat) : (46 : UInt8) ∉ pr6 g := by
  unfold pr6
  split
  · exact hexs_no46 g
  · simp only [List.mem_append, not_or]
    exact ⟨⟨hexs_no46 _, by decide⟩, hexs_no46 _⟩

/-! Reading, as the program does. -/
def grp1 (w : List UInt8) : Option Nat := if w = [] then none else pu 0 w
def wordsFrom (out : List Nat) : List (List UInt8) → Option (List Nat)
  | [] => some out
  | w :: r => match grp1 w with
    | none => none
    | some n => if out.length = 8 then none else wordsFrom (out ++ [n]) r
def wordsL (s : List UInt8) : Option (List Nat) := if s = [] then some [] else wordsFrom [] (cutAt 58 s)
def quadsFrom (n : Nat) : List (List UInt8) → Option Nat
  | [] => some n
  | w :: r => match numL w with
    | none => none
    | some x => if 255 < x then none else quadsFrom (n * 256 + x) r
def join4 (l : List Nat) : Nat := l.foldl (fun a n => a * 65536 + n) 0
def joinG (g : List Nat) : Nat × Nat := (join4 (g.take 4), join4 (g.drop 4))
def fill (x y : List Nat) : List Nat := x ++ List.replicate (8 - x.length - y.length) 0 ++ y
def read6 (a b : List UInt8) (short : Bool) : Option (Nat × Nat) :=
  match wordsL a, wordsL b with
  | some x, some y => if 8 < x.length + y.length ∨ (short = false ∧ x.length ≠ 8) then none else some (joinG (fill x y))
  | _, _ => none
def readL (s : List UInt8) : Option (Nat × Nat) :=
  if (cutAt 46 s).length = 4 then (quadsFrom 0 (cutAt 46 s)).map fun n => (0, 281470681743360 + n)
  else match cut2 s with
    | none => read6 s [] false
    | some p => read6 p.1 p.2 true

theorem wordsFrom_digs : ∀ (l out : List Nat), out.length + l.length ≤ 8 → (∀ n ∈ l, n ≤ 65535) → wordsFrom out (l.map (digs 16)) = some (out ++ l)
  | [], out, _, _ => by simp [wordsFrom]
  | n :: l, out, h, hl => by
    simp only [List.length_cons] at h
    rw [List.map_cons, wordsFrom, grp1, if_neg (digs_ne 16 n (by omega)), pu_digs n (hl n (by simp))]
    simp only
    rw [if_neg (by omega), wordsFrom_digs l (out ++ [n]) (by simp; omega) (fun m hm => hl m (by simp [hm]))]
    simp
theorem wordsL_hexs (l : List Nat) (h : l.length ≤ 8) (hl : ∀ n ∈ l, n ≤ 65535) : wordsL (hexs l) = some l := by
  unfold wordsL
  by_cases e : l = []
  · subst e; rfl
  · have hne : hexs l ≠ [] := by
      unfold hexs
      rw [ne_eq, join_nil_iff _ (fun y hy => (hexs_ok l y hy).1)]
      simpa using e
    rw [if_neg hne]
    unfold hexs
    rw [cutAt_join 58 _ (by simpa using e) (fun y hy => (hexs_ok l y hy).2)]
    have := wordsFrom_digs l [] (by simpa using h) hl
    simpa using this
theorem quadsFrom_digs : ∀ (l : List Nat) (n : Nat), (∀ x ∈ l, x ≤ 255) → quadsFrom n (l.map (digs 10)) = some (l.foldl (fun a x => a * 256 + x) n)
  | [], n, _ => rfl
  | x :: l, n, h => by
    have hx := h x (by simp)
    rw [List.map_cons, quadsFrom, numL_digs x (by omega)]
    simp only
    rw [if_neg (by omega), quadsFrom_digs l _ (fun y hy => h y (by simp [hy])), List.foldl_cons]
theorem quad_le (n : Nat) : ∀ x ∈ quad n, x ≤ 65535 := by
  intro x hx
  simp only [quad, List.mem_cons, List.not_mem_nil, or_false] at hx
  omega
theorem grp_le (hi lo : Nat) : ∀ x ∈ grp hi lo, x ≤ 65535 := by
  intro x hx
  unfold grp at hx
  rcases List.mem_append.mp hx with h | h
  · exact quad_le _ x h
  · exact quad_le _ x h
theorem grp_len (hi lo : Nat) : (grp hi lo).length = 8 := rfl
theorem joinG_grp (hi lo : Nat) (h1 : hi < 18446744073709551616) (h2 : lo < 18446744073709551616) : joinG (grp hi lo) = (hi, lo) := by
  unfold joinG grp quad join4
  simp only [List.cons_append, List.nil_append, List.take_succ_cons, List.take_zero, List.drop_succ_cons, List.drop_zero, List.foldl_cons, List.foldl_nil]
  congr 1 <;> omega
theorem readL_prA (hi lo : Nat) (h1 : hi < 18446744073709551616) (h2 : lo < 18446744073709551616) : readL (prA hi lo) = some (hi, lo) := by
  unfold readL prA
  by_cases h4 : isFour hi lo = true
  · rw [if_pos h4]
    unfold isFour at h4
    simp only [Bool.and_eq_true, decide_eq_true_eq] at h4
    have hc : cutAt 46 (pr4 lo) = (four lo).map (digs 10) := by
      unfold pr4
      apply cutAt_join
      · simp [four]
      · intro y hy
        obtain ⟨n, _, rfl⟩ := List.mem_map.mp hy
        exact fun h => (digs_no (by omega) (by omega) n _ h).2.1 rfl
    have hf : ∀ x ∈ four lo, x ≤ 255 := by
      intro x hx
      simp only [four, List.mem_cons, List.not_mem_nil, or_false] at hx
      omega
    rw [hc, if_pos (by simp [four]), quadsFrom_digs _ _ hf]
    simp only [four, List.foldl_cons, List.foldl_nil, Option.map_some, Option.some.injEq, Prod.mk.injEq]
    omega
  · rw [if_neg h4, cutAt_none 46 _ (pr6_no46 _), if_neg (by simp)]
    have hl := grp_le hi lo
    have hn := grp_len hi lo
    have hj := joinG_grp hi lo h1 h2
    generalize grp hi lo = g at hl hn hj
    unfold pr6
    by_cases hb : (best g).2 < 2
    · rw [if_pos hb, show cut2 (hexs g) = none from cut2_no _ (hexs_ok g)]
      simp only
      unfold read6
      rw [wordsL_hexs g (by omega) hl, show wordsL [] = some [] from rfl]
      simp only
      rw [if_neg (by simp; omega)]
      unfold fill
      simp [hn, hj]
    · obtain ⟨hp1, hp2⟩ := best_parts g (by omega)
      rw [if_neg hb]
      generalize (best g).1 = p at hp1 hp2
      generalize (best g).2 = q at hp1 hp2 hb
      have hc : cut2 (hexs (g.take p) ++ [58, 58] ++ hexs (g.drop (p + q))) = some (hexs (g.take p), hexs (g.drop (p + q))) := by
        rw [List.append_assoc]
        exact cut2_two _ _ (hexs_ok _)
      rw [hc]
      simp only
      unfold read6
      rw [wordsL_hexs (g.take p) (by rw [List.length_take]; omega) (fun n hn => hl n (List.mem_of_mem_take hn)), wordsL_hexs (g.drop (p + q)) (by rw [List.length_drop]; omega) (fun n hn => hl n (List.mem_of_mem_drop hn))]
      simp only [List.length_take, List.length_drop]
      rw [if_neg (by simp; omega)]
      unfold fill
      rw [List.length_take, List.length_drop, show 8 - min p g.length - (g.length - (p + q)) = q by omega, ← hp2, hj]
/-- What the program reads: the address whose print it is. -/
def parseL (s : List UInt8) : Option (Nat × Nat) := match readL s with
  | none => none
  | some p => if prA p.1 p.2 = s then some p else none
theorem parseL_prA (hi lo : Nat) (h1 : hi < 18446744073709551616) (h2 : lo < 18446744073709551616) : parseL (prA hi lo) = some (hi, lo) := by
  unfold parseL
  rw [readL_prA hi lo h1 h2]
  simp
theorem parseL_some (s : List UInt8) (p : Nat × Nat) (h : parseL s = some p) : prA p.1 p.2 = s := by
  unfold parseL at h
  cases hr : readL s with
  | none => rw [hr] at h; cases h
  | some q =>
    rw [hr] at h
    simp only at h
    split at h
    · obtain rfl := Option.some.inj h; assumption
    · cases h
end Go.Proofs.YtgbkeciimddpnaaGreatDoor.AddrP
