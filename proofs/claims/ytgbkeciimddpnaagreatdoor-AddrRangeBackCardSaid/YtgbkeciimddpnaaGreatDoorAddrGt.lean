/-
The reference's guess at an address, as printed, comes to a plain function; of a text that is printed it is the address.
Conditions: texts of at most 64 bytes.
-/
import Derived.Test.YtgbkeciimddpnaaGreatDoorAddrGs
import Derived.Test.YtgbkeciimddpnaaGreatDoorAddrPa
import Derived.Laws.Bits64b
namespace Go.Proofs.YtgbkeciimddpnaaGreatDoor.Print
open Go Go.RowKit Go.Proofs.YtgbkeciimddpnaaGreatDoorW.PrintWords Go.Proofs.YtgbkeciimddpnaaGreatDoor.AddrP

theorem guess_four (ws : List (List UInt8)) (h4 : ws.length = 4) : ∀ (d i k m : Nat), i + d = 4 → d + 21 ≤ k → m < 256 ^ i → (∀ w ∈ ws, w.length ≤ 9223372036854775807) →
    sallyportref03_guess.l0 k (ws.map mkB) (m : Int) (i : Int) = some (match quadsFrom m (ws.drop i) with | none => (0, 0, false) | some n => (0, ((281470681743360 + n : Nat) : Int), true)) := by
  intro d
  induction d with
  | zero =>
    intro i k m hi hk hm _
    obtain ⟨j, rfl⟩ : ∃ j, k = j + 1 := ⟨k - 1, by omega⟩
    have hm4 : m < 4294967296 := Nat.lt_of_lt_of_le hm (Nat.le_trans (Nat.pow_le_pow_right (by omega) (show i ≤ 4 by omega)) (by decide))
    clear hm
    simp only [sallyportref03_guess.l0]
    rw [if_neg (by omega), List.drop_eq_nil_of_le (by omega)]
    unfold sallyportref03_Of4.f quadsFrom
    simp only [Option.bind_some]
    have e1 : (m : Int) % 4294967296 = (m : Int) := by omega
    rw [e1, IntWalk.u64_in (m : Int) (by omega), IntWalk.u64_in _ (by omega)]
    rfl
  | succ d ih =>
    intro i k m hi hk hm hsz
    obtain ⟨j, rfl⟩ : ∃ j, k = j + 1 := ⟨k - 1, by omega⟩
    obtain ⟨w, hw⟩ : ∃ w, ws[i]? = some w := ⟨_, List.getElem?_eq_getElem (by omega)⟩
    have hdrop : ws.drop i = w :: ws.drop (i + 1) := by
      rw [List.drop_eq_getElem_cons (by omega)]
      rw [List.getElem?_eq_getElem (by omega)] at hw
      rw [Option.some.inj hw]
    have hm3 : m < 16777216 := Nat.lt_of_lt_of_le hm (Nat.le_trans (Nat.pow_le_pow_right (by omega) (show i ≤ 3 by omega)) (by decide))
    have HM := Lib.hid hm
    clear hm
    have hnum := refNum_is (mkB w) j (by omega) (by rw [mkB_size]; exact hsz w (List.mem_of_getElem? hw))
    rw [mkB_data] at hnum
    simp only [sallyportref03_guess.l0]
    rw [if_pos (by omega), if_pos (by omega), if_pos (by rw [List.length_map]; omega), rdOf_at ws i w hw, hnum, hdrop, quadsFrom_cons]
    simp only [Option.bind_some]
    unfold numI
    cases hv : numL w with
    | none => simp
    | some v =>
      have hv0 : ¬ ((v : Int) < 0) := by omega
      simp only
      rw [if_neg hv0]
      by_cases h255 : 255 < v
      · rw [if_pos (by omega), if_pos h255]
      · rw [if_neg (by omega), if_neg h255]
        have e1 : wrap64 (wrap64 ((m : Int) * 256) + (v : Int)) = ((m * 256 + v : Nat) : Int) := by
          have q1 : wrap64 ((m : Int) * 256) = ((m * 256 : Nat) : Int) := by rw [show (m : Int) * 256 = ((m * 256 : Nat) : Int) by omega]; exact wrap_mid _ (by omega)
          rw [q1, show ((m * 256 : Nat) : Int) + (v : Int) = ((m * 256 + v : Nat) : Int) by omega]
          exact wrap_mid _ (by omega)
        rw [e1, wrap_next (show i < 4 by omega) (by omega)]
        have hi1 : i + 1 + d = 4 := by omega
        have hk1 : d + 21 ≤ j := by omega
        exact ih (i + 1) j (m * 256 + v) hi1 hk1 (by
          have hm := HM.out
          rw [Nat.pow_succ]
          generalize 256 ^ i = P at hm ⊢
          clear HM hi hk hi1 hk1 ih hnum hdrop
          omega) hsz

def rgP (s : List UInt8) : Nat × Nat := if s = [] then (0, 0) else (rgFrom (0, 0) (cutAt 58 s)).1
def rgOk (s : List UInt8) : Bool := if s = [] then true else (rgFrom (0, 0) (cutAt 58 s)).2 && decide ((cutAt 58 s).length ≤ 8)
def rgC (s : List UInt8) : Nat := if s = [] then 0 else if (rgFrom (0, 0) (cutAt 58 s)).2 = true then (cutAt 58 s).length else 0
theorem rgL_parts (s : List UInt8) : rgL s = ((((rgP s).1 : Nat) : Int), (((rgP s).2 : Nat) : Int), ((rgC s : Nat) : Int), rgOk s) := by
  unfold rgL rgP rgC rgOk grRes
  by_cases h : s = []
  · simp [h]
  · simp only [if_neg h]
    split <;> rfl
theorem rgFrom_lt : ∀ (ws : List (List UInt8)) (p : Nat × Nat), p.1 < 18446744073709551616 → p.2 < 18446744073709551616 → (rgFrom p ws).1.1 < 18446744073709551616 ∧ (rgFrom p ws).1.2 < 18446744073709551616
  | [], p, h1, h2 => ⟨h1, h2⟩
  | w :: r, p, h1, h2 => by
    rw [rgFrom]
    cases hg : rgrp w with
    | none => exact ⟨h1, h2⟩
    | some n =>
      obtain ⟨_, _, b3, b4⟩ := step_bits p n h1 h2 (rgrp_lt w n hg)
      exact rgFrom_lt r _ b3 b4
theorem rgP_lt (s : List UInt8) : (rgP s).1 < 18446744073709551616 ∧ (rgP s).2 < 18446744073709551616 := by
  unfold rgP
  split
  · exact ⟨by decide, by decide⟩
  · exact rgFrom_lt _ _ (by decide) (by decide)
def shift0 : Nat → Nat × Nat → Nat × Nat
  | 0, p => p
  | d + 1, p => shift0 d (stepHL p 0)
theorem shift0_lt : ∀ (d : Nat) (p : Nat × Nat), p.1 < 18446744073709551616 → p.2 < 18446744073709551616 → (shift0 d p).1 < 18446744073709551616 ∧ (shift0 d p).2 < 18446744073709551616
  | 0, p, h1, h2 => ⟨h1, h2⟩
  | d + 1, p, h1, h2 => by
    obtain ⟨_, _, b3, b4⟩ := step_bits p 0 h1 h2 (by decide)
    exact shift0_lt d _ b3 b4
theorem guess_shift : ∀ (d i k : Nat) (p q : Nat × Nat), i + d = 8 → d + 1 ≤ k → p.1 < 18446744073709551616 → p.2 < 18446744073709551616 →
    sallyportref03_guess.l2 k (i : Int) (p.1 : Int) (p.2 : Int) (q.1 : Int) (q.2 : Int) = some (bits .or .u64 (((shift0 d p).1 : Nat) : Int) (q.1 : Int), bits .or .u64 (((shift0 d p).2 : Nat) : Int) (q.2 : Int), true) := by
  intro d
  induction d with
  | zero =>
    intro i k p q hi hk h1 h2
    obtain ⟨j, rfl⟩ : ∃ j, k = j + 1 := ⟨k - 1, by omega⟩
    simp only [sallyportref03_guess.l2]
    rw [if_neg (by omega)]
    rfl
  | succ d ih =>
    intro i k p q hi hk h1 h2
    obtain ⟨j, rfl⟩ : ∃ j, k = j + 1 := ⟨k - 1, by omega⟩
    obtain ⟨b1, b2, b3, b4⟩ := step_bits p 0 h1 h2 (by decide)
    have e2 : IntKind.u64.wrap ((p.2 : Int) * 65536) = (((stepHL p 0).2 : Nat) : Int) := by
      unfold stepHL
      rw [IntKind.wrap_u64]
      show _ = ((p.2 * 65536 % 18446744073709551616 + 0 : Nat) : Int)
      omega
    simp only [sallyportref03_guess.l2]
    rw [if_pos (by omega), wrap_next (show i < 8 by omega) (by omega), b1, e2]
    exact ih (i + 1) j (stepHL p 0) q (by omega) (by omega) b3 b4
abbrev GI := Int × Int × Bool
def orHL (p q : Nat × Nat) : GI := (bits .or .u64 (p.1 : Int) (q.1 : Int), bits .or .u64 (p.2 : Int) (q.2 : Int), true)
def guess2 (a b : List UInt8) : GI := if rgOk a = true ∧ rgOk b = true ∧ rgC a + rgC b ≤ 7 then orHL (shift0 (8 - rgC a) (rgP a)) (rgP b) else (0, 0, false)
def guessI (s : List UInt8) : GI :=
  if (cutAt 46 s).length = 4 then (match quadsFrom 0 (cutAt 46 s) with | none => (0, 0, false) | some n => (0, ((281470681743360 + n : Nat) : Int), true))
  else match cut2 s with
    | none => ((((rgP s).1 : Nat) : Int), (((rgP s).2 : Nat) : Int), rgOk s && decide (rgC s = 8))
    | some p => guess2 p.1 p.2
theorem rgC_le (s : List UInt8) (h : s.length ≤ 256) : rgC s ≤ 257 := by
  unfold rgC
  have := cutAt_len 58 s
  split
  · omega
  · split <;> omega
theorem guess_j2 (a b : List UInt8) (k : Nat) (hk : 12 ≤ k) (x : Bool) (hx : x = false → rgC a + rgC b ≤ 7) :
    sallyportref03_guess.j2 k ((rgC a : Nat) : Int) x (((rgP a).1 : Nat) : Int) (((rgP a).2 : Nat) : Int) (((rgP b).1 : Nat) : Int) (((rgP b).2 : Nat) : Int) = some (if x = true then (0, 0, false) else orHL (shift0 (8 - rgC a) (rgP a)) (rgP b)) := by
  obtain ⟨j, rfl⟩ : ∃ j, k = j + 1 := ⟨k - 1, by omega⟩
  simp only [sallyportref03_guess.j2]
  cases x with
  | true => rfl
  | false =>
    have h7 := hx rfl
    obtain ⟨l1, l2⟩ := rgP_lt a
    rw [if_neg (by simp), if_neg (by simp)]
    exact guess_shift (8 - rgC a) (rgC a) j (rgP a) (rgP b) (by omega) (by omega) l1 l2
theorem two_at (s : ByteArray) (i : Nat) (h : i + 1 < s.size) : ((s.extract i (i + 2)).toList = ([58, 58] : List UInt8)) ↔ (s.data.toList[i]? = some 58 ∧ s.data.toList[i + 1]? = some 58) := by
  have hz : s.data.toList.length = s.size := (Lib.size_eq s).symm
  rw [Lib.toList_data, Lib.extract_data, List.drop_eq_getElem_cons (by omega), List.drop_eq_getElem_cons (by omega), List.getElem?_eq_getElem (by omega), List.getElem?_eq_getElem (by omega), show i + 2 - i = 2 by omega]
  simp
theorem guess_from (s : ByteArray) (hs : s.size ≤ 64) : ∀ (d i k : Nat), i + d = s.size → d + 2500 ≤ k → 
    sallyportref03_guess.l1 k s (i : Int) = some (match cut2 (s.data.toList.drop i) with
      | none => ((((rgP s.data.toList).1 : Nat) : Int), (((rgP s.data.toList).2 : Nat) : Int), rgOk s.data.toList && decide (rgC s.data.toList = 8))
      | some p => guess2 (s.data.toList.take i ++ p.1) p.2) := by
  have hz : s.data.toList.length = s.size := (Lib.size_eq s).symm
  have tail : ∀ k, 2450 ≤ k → ((sallyportref03_groups.f k s).bind fun bt144 => (if bt144.2.2.2 = true then (some (bt144.1, bt144.2.1, (bt144.2.2.1 == 8))) else (some (bt144.1, bt144.2.1, false)))) = some ((((rgP s.data.toList).1 : Nat) : Int), (((rgP s.data.toList).2 : Nat) : Int), rgOk s.data.toList && decide (rgC s.data.toList = 8)) := by
    intro k hk
    rw [refGroups_is s (by omega) k (by omega), rgL_parts]
    simp only [Option.bind_some]
    cases rgOk s.data.toList with
    | false => simp
    | true =>
      simp only [if_true, Bool.true_and]
      congr 3
      rw [Bool.eq_iff_iff]; simp; omega
  intro d
  induction d with
  | zero =>
    intro i k hi hk
    obtain ⟨j, rfl⟩ : ∃ j, k = j + 1 := ⟨k - 1, by omega⟩
    have hw : wrap64 ((i : Int) + 1) = ((i + 1 : Nat) : Int) := by unfold wrap64; omega
    simp only [sallyportref03_guess.l1]
    rw [hw, if_neg (by omega), List.drop_eq_nil_of_le (by omega)]
    exact tail j (by omega)
  | succ d ih =>
    intro i k hi hk
    obtain ⟨j, rfl⟩ : ∃ j, k = j + 1 := ⟨k - 1, by omega⟩
    have hw : wrap64 ((i : Int) + 1) = ((i + 1 : Nat) : Int) := by unfold wrap64; omega
    have hw2 : wrap64 ((i : Int) + 2) = ((i + 2 : Nat) : Int) := by unfold wrap64; omega
    have e1 : ((i : Nat) : Int).toNat = i := by omega
    have e2 : ((i + 2 : Nat) : Int).toNat = i + 2 := by omega
    simp only [sallyportref03_guess.l1]
    rw [hw, hw2]
    by_cases hd : d = 0
    · subst hd
      rw [if_neg (by omega), drop_at s i (by omega), List.drop_eq_nil_of_le (by omega)]
      exact tail j (by omega)
    · rw [if_pos (by omega), if_pos (by omega), if_pos (by omega), if_pos (by omega), e1, e2]
      have htwo := two_at s i (by omega)
      rw [drop_at s i (by omega), drop_at s (i + 1) (by omega), cut2]
      rw [List.getElem?_eq_getElem (by omega), List.getElem?_eq_getElem (by omega)] at htwo
      have htwo' : ((s.extract i (i + 2)).toList = ([58, 58] : List UInt8)) ↔ (s[i] = 58 ∧ s[i + 1] = 58) := by
        rw [htwo]
        constructor
        · rintro ⟨h1, h2⟩; exact ⟨Option.some.inj h1, Option.some.inj h2⟩
        · rintro ⟨h1, h2⟩; exact ⟨congrArg some h1, congrArg some h2⟩
      by_cases hh : s[i] = 58 ∧ s[i + 1] = 58
      · rw [if_pos (htwo'.mpr hh), if_pos (by omega), if_pos hh]
        have ga := refGroups_is (s.extract 0 i) (by rw [ByteArray.size_extract]; omega) j (by omega)
        have gb := refGroups_is (s.extract (i + 2) s.size) (by rw [ByteArray.size_extract]; omega) j (by omega)
        have da : (s.extract 0 i).data.toList = s.data.toList.take i := by rw [Lib.extract_data]; simp
        have db : (s.extract (i + 2) s.size).data.toList = s.data.toList.drop (i + 1 + 1) := by rw [Lib.extract_data, List.take_of_length_le (by rw [List.length_drop]; omega)]
        rw [da, rgL_parts] at ga
        rw [db, rgL_parts] at gb
        rw [ga]
        simp only [Option.bind_some]
        rw [if_pos (by omega), gb]
        simp only [Option.bind_some, List.append_nil]
        have hca := rgC_le (s.data.toList.take i) (by rw [List.length_take]; omega)
        have hcb := rgC_le (s.data.toList.drop (i + 1 + 1)) (by rw [List.length_drop]; omega)
        generalize s.data.toList.take i = A at hca ga da ⊢
        generalize s.data.toList.drop (i + 1 + 1) = B at hcb gb db ⊢
        have hc7 : (rgC A + rgC B ≤ 7 → ¬ ((rgC A + rgC B : Nat) : Int) > 7) ∧ (¬ rgC A + rgC B ≤ 7 → ((rgC A + rgC B : Nat) : Int) > 7) := by constructor <;> intro h <;> omega
        have hj12 : 12 ≤ j := by omega
        have hsum : wrap64 (((rgC A : Nat) : Int) + ((rgC B : Nat) : Int)) = ((rgC A + rgC B : Nat) : Int) := by
          rw [show ((rgC A : Nat) : Int) + ((rgC B : Nat) : Int) = ((rgC A + rgC B : Nat) : Int) by omega]
          exact wrap_mid _ (by omega)
        rw [hsum]
        unfold guess2
        cases hoa : rgOk A with
        | false =>
          rw [if_neg (by simp), guess_j2 A B j hj12 true (fun h => by cases h), if_pos rfl, if_neg (by simp)]
        | true =>
          rw [if_pos rfl]
          cases hob : rgOk B with
          | false =>
            rw [if_neg (by simp), guess_j2 A B j hj12 true (fun h => by cases h), if_pos rfl, if_neg (by simp)]
          | true =>
            rw [if_pos rfl]
            by_cases h7 : rgC A + rgC B ≤ 7
            · rw [decide_eq_false (hc7.1 h7), guess_j2 A B j hj12 false (fun _ => h7), if_neg (by simp), if_pos ⟨rfl, rfl, h7⟩]
            · rw [decide_eq_true (hc7.2 h7), guess_j2 A B j hj12 true (fun h => by cases h), if_pos rfl, if_neg (fun e => h7 e.2.2)]
      · rw [if_neg (fun e => hh (htwo'.mp e)), if_neg hh, ih (i + 1) j (by omega) (by omega), drop_at s (i + 1) (by omega)]
        cases hc : cut2 (s[i + 1] :: s.data.toList.drop (i + 1 + 1)) with
        | none => rfl
        | some p =>
          simp only [Option.map_some]
          have : s.data.toList.take (i + 1) = s.data.toList.take i ++ [s[i]] := by
            rw [List.take_add_one, List.getElem?_eq_getElem (by omega)]
            rfl
          rw [this, List.append_assoc]
          rfl
theorem guess_is (s : ByteArray) (hs : s.size ≤ 64) (k : Nat) (hk : 2600 ≤ k) : sallyportref03_guess.f k s = some (guessI s.data.toList) := by
  have hz : s.data.toList.length = s.size := (Lib.size_eq s).symm
  unfold sallyportref03_guess.f guessI
  have hc := refCut_is s 46 (by omega) k (by omega)
  have e46 : ((46 : UInt8).toNat : Int) = 46 := rfl
  rw [e46] at hc
  rw [hc]
  simp only [Option.bind_some, List.length_map]
  have e0 : ((0 : Nat) : Int) = 0 := rfl
  by_cases h4 : (cutAt 46 s.data.toList).length = 4
  · rw [if_pos (by omega), if_pos h4]
    have hsz : ∀ w ∈ cutAt 46 s.data.toList, w.length ≤ 9223372036854775807 := by
      intro w hw
      rw [← pieces_data] at hw
      obtain ⟨x, hx, rfl⟩ := List.mem_map.mp hw
      have := pieces_size 46 s x hx
      rw [← Lib.size_eq]; omega
    have := guess_four (cutAt 46 s.data.toList) h4 4 0 k 0 (by omega) (by omega) (by simp) hsz
    rw [List.drop_zero, e0] at this
    exact this
  · rw [if_neg (by omega), if_neg h4]
    have := guess_from s hs s.size 0 k (by omega) (by omega)
    rw [List.drop_zero, e0, List.take_zero] at this
    rw [this]
    rfl

/-! Of a text that is printed. -/
theorem rhex_dg (d : Nat) (h : d < 16) : rhex (dg d) = some d := by
  have : ∀ d : Fin 16, rhex (dg d.val) = some d.val := by decide
  exact this ⟨d, h⟩
theorem rdig_app : ∀ (l1 l2 : List UInt8) (a : Nat), rdig a (l1 ++ l2) = (rdig a l1).bind fun n => rdig n l2
  | [], _, _ => rfl
  | c :: l1, l2, a => by
    rw [List.cons_append, rdig, rdig]
    cases rhex c with
    | none => rfl
    | some d => exact rdig_app l1 l2 _
theorem rdig_digs (n : Nat) : rdig 0 (digs 16 n) = some n := by
  induction n using Nat.strongRecOn with
  | _ n ih =>
    by_cases h' : n < 16
    · rw [digs_one h', rdig, rhex_dg n h']
      simp [rdig]
    · rw [digs_more h' (by omega), rdig_app, ih (n / 16) (by omega)]
      simp only [Option.bind_some]
      rw [rdig, rhex_dg _ (by omega)]
      simp only [rdig]
      congr 1; omega
theorem rgrp_digs (n : Nat) (h : n ≤ 65535) : rgrp (digs 16 n) = some n := by
  have h1 := digs_ne 16 n (by omega)
  have h2 := digs_len (b := 16) (by omega) 3 n (by omega)
  have h3 : 0 < (digs 16 n).length := List.length_pos_iff.mpr h1
  unfold rgrp
  rw [if_neg (by omega), rdig_digs]
theorem rgFrom_digs : ∀ (l : List Nat) (p : Nat × Nat), (∀ n ∈ l, n ≤ 65535) → rgFrom p (l.map (digs 16)) = (l.foldl stepHL p, true)
  | [], _, _ => rfl
  | n :: l, p, h => by
    rw [List.map_cons, rgFrom, rgrp_digs n (h n (by simp))]
    exact rgFrom_digs l _ (fun m hm => h m (by simp [hm]))
theorem rg_hexs (l : List Nat) (hl : l.length ≤ 8) (hb : ∀ n ∈ l, n ≤ 65535) : rgP (hexs l) = l.foldl stepHL (0, 0) ∧ rgOk (hexs l) = true ∧ rgC (hexs l) = l.length := by
  by_cases h : l = []
  · subst h
    exact ⟨rfl, rfl, rfl⟩
  · obtain ⟨_, hne⟩ := hexs_last l h
    have hc : cutAt 58 (hexs l) = l.map (digs 16) := by
      unfold hexs
      exact cutAt_join 58 _ (by simpa using h) (fun y hy => (hexs_ok l y hy).2)
    unfold rgP rgOk rgC
    rw [if_neg hne, if_neg hne, if_neg hne, hc, rgFrom_digs l (0, 0) hb]
    simp [hl]
/-- Groups as one number. -/
def V (l : List Nat) : Nat := l.foldl (fun a n => a * 65536 + n) 0
theorem V_snoc (l : List Nat) (n : Nat) : V (l ++ [n]) = V l * 65536 + n := by unfold V; rw [List.foldl_append]; rfl
theorem rev_ind {p : List Nat → Prop} (h0 : p []) (h1 : ∀ l n, p l → p (l ++ [n])) (l : List Nat) : p l := by
  have : ∀ k (l : List Nat), l.length = k → p l := by
    intro k
    induction k with
    | zero => intro l hl; rw [List.eq_nil_of_length_eq_zero hl]; exact h0
    | succ k ih =>
      intro l hl
      have hne : l ≠ [] := by intro e; rw [e] at hl; simp at hl
      rw [← List.dropLast_concat_getLast hne]
      exact h1 _ _ (ih _ (by rw [List.length_dropLast]; omega))
  exact this _ l rfl
theorem V_lt (l : List Nat) (hb : ∀ n ∈ l, n ≤ 65535) : V l < 65536 ^ l.length := by
  induction l using rev_ind with
  | h0 => decide
  | h1 l n ih =>
    rw [V_snoc, List.length_append, List.length_singleton, Nat.pow_succ]
    have h1 := ih (fun m hm => hb m (by simp [hm]))
    have h2 := hb n (by simp)
    generalize 65536 ^ l.length = P at h1 ⊢
    omega
theorem V_app (x y : List Nat) : V (x ++ y) = V x * 65536 ^ y.length + V y := by
  induction y using rev_ind with
  | h0 => simp [V]
  | h1 y n ih =>
    rw [← List.append_assoc, V_snoc, V_snoc, ih, List.length_append, List.length_singleton, Nat.pow_succ, Nat.add_mul, Nat.mul_assoc]
    omega
theorem V_zeros (m : Nat) : V (List.replicate m 0) = 0 := by
  induction m with
  | zero => rfl
  | succ m ih => rw [List.replicate_succ', V_snoc, ih]
theorem fold_V (l : List Nat) (hl : l.length ≤ 8) (hb : ∀ n ∈ l, n ≤ 65535) : l.foldl stepHL (0, 0) = (V l / 18446744073709551616, V l % 18446744073709551616) := by
  induction l using rev_ind with
  | h0 => rfl
  | h1 l n ih =>
    rw [List.length_append, List.length_singleton] at hl
    have hb' : ∀ m ∈ l, m ≤ 65535 := fun m hm => hb m (by simp [hm])
    have h1 := ih (by omega) hb'
    have h2 := V_lt l hb'
    have h3 : V l < 5192296858534827628530496329220096 := Nat.lt_of_lt_of_le h2 (Nat.le_trans (Nat.pow_le_pow_right (by omega) (show l.length ≤ 7 by omega)) (by decide))
    have h4 := hb n (by simp)
    rw [List.foldl_append, h1, V_snoc]
    simp only [List.foldl_cons, List.foldl_nil, stepHL]
    clear h2 h1 ih
    generalize V l = a at h3
    congr 1 <;> omega
theorem shift0_fold : ∀ (d : Nat) (p : Nat × Nat), shift0 d p = (List.replicate d 0).foldl stepHL p
  | 0, _ => rfl
  | d + 1, p => by rw [shift0, shift0_fold d, List.replicate_succ, List.foldl_cons]
theorem joinG_V (F : List Nat) (hF : F.length = 8) (hb : ∀ n ∈ F, n ≤ 65535) : joinG F = (V F / 18446744073709551616, V F % 18446744073709551616) := by
  have hlo := join4_lt (F.drop 4) (by rw [List.length_drop]; omega) (fun n hn => hb n (List.mem_of_mem_drop hn))
  have e : V F = V (F.take 4) * 65536 ^ (F.drop 4).length + V (F.drop 4) := by rw [← V_app, List.take_append_drop]
  have e2 : 65536 ^ (F.drop 4).length = 18446744073709551616 := by rw [List.length_drop, hF]
  rw [e2] at e
  have e3 : V (F.drop 4) = join4 (F.drop 4) := rfl
  have e4 : V (F.take 4) = join4 (F.take 4) := rfl
  unfold joinG
  rw [e, e3, e4]
  generalize join4 (F.drop 4) = b at hlo
  generalize join4 (F.take 4) = a
  congr 1 <;> omega
theorem or_fill (x y : List Nat) (hxy : x.length + y.length ≤ 8) (hx : ∀ n ∈ x, n ≤ 65535) (hy : ∀ n ∈ y, n ≤ 65535) :
    orHL (shift0 (8 - x.length) (x.foldl stepHL (0, 0))) (y.foldl stepHL (0, 0)) = ((((joinG (fill x y)).1 : Nat) : Int), (((joinG (fill x y)).2 : Nat) : Int), true) := by
  have hX8 : (x ++ List.replicate (8 - x.length) 0).length = 8 := by simp; omega
  have hXb : ∀ n ∈ x ++ List.replicate (8 - x.length) 0, n ≤ 65535 := by
    intro n hn
    simp only [List.mem_append, List.mem_replicate] at hn
    rcases hn with h | ⟨_, rfl⟩
    · exact hx n h
    · omega
  have hF8 : (fill x y).length = 8 := by unfold fill; simp; omega
  have hFb : ∀ n ∈ fill x y, n ≤ 65535 := by
    intro n hn
    unfold fill at hn
    simp only [List.mem_append, List.mem_replicate] at hn
    rcases hn with (h | ⟨_, rfl⟩) | h
    · exact hx n h
    · omega
    · exact hy n h
  have e1 : shift0 (8 - x.length) (x.foldl stepHL (0, 0)) = (V (x ++ List.replicate (8 - x.length) 0) / 18446744073709551616, V (x ++ List.replicate (8 - x.length) 0) % 18446744073709551616) := by
    rw [shift0_fold, ← List.foldl_append]
    exact fold_V _ (by omega) hXb
  have e2 := fold_V y (by omega) hy
  have e3 := joinG_V (fill x y) hF8 hFb
  have hVX : V (x ++ List.replicate (8 - x.length) 0) = V x * 65536 ^ (8 - x.length) := by rw [V_app, V_zeros, List.length_replicate]; rfl
  have hVF : V (fill x y) = V (x ++ List.replicate (8 - x.length) 0) + V y := by
    unfold fill
    rw [V_app, V_app, V_zeros, List.length_replicate, hVX, Nat.add_zero, Nat.mul_assoc, ← Nat.pow_add, show 8 - x.length - y.length + y.length = 8 - x.length by omega]
  have hVy : V y < 65536 ^ (8 - x.length) := Nat.lt_of_lt_of_le (V_lt y hy) (Nat.pow_le_pow_right (by omega) (by omega))
  have hor : V (x ++ List.replicate (8 - x.length) 0) ||| V y = V (fill x y) := by
    rw [hVF, hVX]
    have h16 : (65536 : Nat) = 2 ^ 16 := by decide
    rw [h16, ← Nat.pow_mul] at hVy ⊢
    rw [Nat.mul_comm (V x), Nat.two_pow_add_eq_or_of_lt hVy]
  have hXlt := V_lt _ hXb
  rw [hX8] at hXlt
  have hylt : V y < 65536 ^ 8 := Nat.lt_of_lt_of_le (V_lt y hy) (Nat.pow_le_pow_right (by omega) (by omega))
  have e128 : (65536 : Nat) ^ 8 = 340282366920938463463374607431768211456 := by decide
  rw [e128] at hXlt hylt
  unfold orHL
  rw [e1, e2, e3]
  simp only
  have hhi : V (x ++ List.replicate (8 - x.length) 0) / 18446744073709551616 ||| V y / 18446744073709551616 = V (fill x y) / 18446744073709551616 := by
    rw [← hor]
    have h64 : (18446744073709551616 : Nat) = 2 ^ 64 := by decide
    rw [h64, ← Nat.shiftRight_eq_div_pow, ← Nat.shiftRight_eq_div_pow, ← Nat.shiftRight_eq_div_pow, Nat.shiftRight_or_distrib]
  have hlo : V (x ++ List.replicate (8 - x.length) 0) % 18446744073709551616 ||| V y % 18446744073709551616 = V (fill x y) % 18446744073709551616 := by
    rw [← hor]
    have h64 : (18446744073709551616 : Nat) = 2 ^ 64 := by decide
    rw [h64, Nat.or_mod_two_pow]
  clear hVX hVF hor hVy e1 e2 e3 e128
  generalize V (x ++ List.replicate (8 - x.length) 0) = a at *
  generalize V y = b at *
  rw [bits_or_u64_nat _ _ (by omega) (by omega), bits_or_u64_nat _ _ (by omega) (by omega), hhi, hlo]
theorem guessI_prA (hi lo : Nat) (h1 : hi < 18446744073709551616) (h2 : lo < 18446744073709551616) : guessI (prA hi lo) = ((hi : Int), (lo : Int), true) := by
  unfold guessI prA
  by_cases h4 : isFour hi lo = true
  · rw [if_pos h4]
    unfold isFour at h4
    simp only [Bool.and_eq_true, decide_eq_true_eq] at h4
    have hc : cutAt 46 (pr4 lo) = (four lo).map (digs 10) := by
      unfold pr4
      apply cutAt_join
      · simp [four]
      · intro y hy
        obtain ⟨n, _, rfl⟩ := List.mem_map.mp hy
        exact fun h => (digs_no (by omega) (by omega) n _ h).2.1 rfl
    have hf : ∀ x ∈ four lo, x ≤ 255 := by
      intro x hx
      simp only [four, List.mem_cons, List.not_mem_nil, or_false] at hx
      omega
    rw [hc, if_pos (by simp [four]), quadsFrom_digs _ _ hf]
    simp only [four, List.foldl_cons, List.foldl_nil, Prod.mk.injEq, and_true]
    omega
  · rw [if_neg h4, cutAt_none 46 _ (pr6_no46 _), if_neg (by simp)]
    have hl := grp_le hi lo
    have hn := grp_len hi lo
    have hj := joinG_grp hi lo h1 h2
    generalize grp hi lo = g at hl hn hj
    unfold pr6
    by_cases hb : (best g).2 < 2
    · rw [if_pos hb, show cut2 (hexs g) = none from cut2_no _ (hexs_ok g)]
      obtain ⟨a1, a2, a3⟩ := rg_hexs g (by omega) hl
      have hV := fold_V g (by omega) hl
      have hJ := joinG_V g hn hl
      simp only
      rw [a1, a2, a3, hV, ← hJ, hj, hn]
      rfl
    · obtain ⟨hp1, hp2⟩ := best_parts g (by omega)
      rw [if_neg hb]
      generalize (best g).1 = p at hp1 hp2
      generalize (best g).2 = q at hp1 hp2 hb
      have hc : cut2 (hexs (g.take p) ++ [58, 58] ++ hexs (g.drop (p + q))) = some (hexs (g.take p), hexs (g.drop (p + q))) := by
        rw [List.append_assoc]
        exact cut2_two _ _ (hexs_ok _)
      rw [hc]
      simp only
      have bx : ∀ n ∈ g.take p, n ≤ 65535 := fun n hn => hl n (List.mem_of_mem_take hn)
      have bY : ∀ n ∈ g.drop (p + q), n ≤ 65535 := fun n hn => hl n (List.mem_of_mem_drop hn)
      have lx : (g.take p).length = p := by rw [List.length_take]; omega
      have ly : (g.drop (p + q)).length = 8 - (p + q) := by rw [List.length_drop]; omega
      obtain ⟨a1, a2, a3⟩ := rg_hexs (g.take p) (by omega) bx
      obtain ⟨b1, b2, b3⟩ := rg_hexs (g.drop (p + q)) (by omega) bY
      unfold guess2
      rw [if_pos ⟨a2, b2, by rw [a3, b3, lx, ly]; omega⟩, a1, b1, a3]
      rw [or_fill _ _ (by rw [lx, ly]; omega) bx bY]
      have hfill : fill (g.take p) (g.drop (p + q)) = g := by
        unfold fill
        rw [lx, ly, show 8 - p - (8 - (p + q)) = q by omega, ← hp2]
      rw [hfill, hj]
end Go.Proofs.YtgbkeciimddpnaaGreatDoor.Print
