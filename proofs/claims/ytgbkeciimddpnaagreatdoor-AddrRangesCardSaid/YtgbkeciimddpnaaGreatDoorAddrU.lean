/-
The walk of strconv.ParseUint to the base sixteen, for numbers of 16 bits: the number, or some error.
Conditions: the library's two error variables hold errors.
-/
import Derived.Test.YtgbkeciimddpnaaGreatDoorShelf
import Derived.Test.YtgbkeciimddpnaaGreatDoorAddrP
import Derived.Test.YtgbkeciimddpnaaGreatDoorBase
import Derived.LoopTactic
import Derived.Lib.Strings
import Derived.Lib.Walk
import Derived.Lib.ConvBytes
import Derived.Lib.ParseIntBMem
import Derived.Laws.Strings3
import Derived.Laws.Closers25
import Derived.Laws.Closers25b
import Derived.BigCall
import Derived.BigGuard
namespace Go.Proofs.YtgbkeciimddpnaaGreatDoor.Print
open Go Go.RowKit Go.Proofs.YtgbkeciimddpnaaGreatDoor.AddrP
/-- How a reading to the base sixteen ends. -/
inductive PuEnd where
  | ok (v : Nat)
  | bad
  | big
def puTuple (T : TypeId) : PuEnd → Value
  | .ok n => .tuple #[.int .u64 n, .nilIface]
  | .bad => .tuple #[.int .u64 0, .iface T (.int .i64 2)]
  | .big => .tuple #[.int .u64 65535, .iface T (.int .i64 1)]
def puN (acc : Nat) : List UInt8 → PuEnd
  | [] => .ok acc
  | c :: l => match hexd c with
    | none => .bad
    | some d => if acc * 16 + d ≤ 65535 then puN (acc * 16 + d) l else .big
theorem puN_digit (acc : Nat) (c : UInt8) (l : List UInt8) (h0 : 48 ≤ c.toNat) (h1 : c.toNat ≤ 57) : puN acc (c :: l) = if acc * 16 + (c.toNat - 48) ≤ 65535 then puN (acc * 16 + (c.toNat - 48)) l else .big := by
  rw [puN, hexd, if_pos ⟨h0, h1⟩]
theorem puN_letter (acc : Nat) (c : UInt8) (l : List UInt8) (h : ¬ (48 ≤ c.toNat ∧ c.toNat ≤ 57)) (h0 : 97 ≤ (c ||| 32).toNat) (h1 : (c ||| 32).toNat ≤ 102) : puN acc (c :: l) = if acc * 16 + ((c ||| 32).toNat - 87) ≤ 65535 then puN (acc * 16 + ((c ||| 32).toNat - 87)) l else .big := by
  rw [puN, hexd, if_neg h, if_pos ⟨h0, h1⟩]
theorem puN_other (acc : Nat) (c : UInt8) (l : List UInt8) (h : ¬ (48 ≤ c.toNat ∧ c.toNat ≤ 57)) (h0 : ¬ (97 ≤ (c ||| 32).toNat ∧ (c ||| 32).toNat ≤ 102)) : puN acc (c :: l) = .bad := by
  rw [puN, hexd, if_neg h, if_neg h0]
theorem puN_pu : ∀ (l : List UInt8) (acc : Nat), pu acc l = match puN acc l with | .ok v => some v | _ => none
  | [], _ => rfl
  | c :: l, acc => by
    rw [pu, puN]
    cases hexd c with
    | none => rfl
    | some d =>
      simp only
      split
      · exact puN_pu l _
      · rfl
theorem low_or (c : UInt8) : bits .or .u8 (c.toNat : Int) 32 = ((c ||| 32).toNat : Int) := by
  have : ∀ n : Fin 256, bits .or .u8 ((UInt8.ofNat n.val).toNat : Int) 32 = ((UInt8.ofNat n.val ||| 32).toNat : Int) := by decide +kernel
  have h := this ⟨c.toNat, c.toNat_lt⟩
  simpa using h
set_option maxHeartbeats 32000000 in
set_option maxRecDepth 100000 in
theorem parseUint_inner (t : ByteArray) (hne : t.size ≠ 0) (hmax : t.size ≤ 9223372036854775806) (w : World) :
    Calls Tryz.prog 94 #[.string t, .int .i64 16, .int .i64 16] w fun e w' => e = .returned (puTuple 105 (puN 0 t.data.toList)) ∧ w' = Lib.bytesWorld w 5 t := by
  have hemp : t.toList.isEmpty = false := by
    rw [← decide_eq_emptyBytes]
    exact decide_eq_false (fun h => hne (by rw [h]; rfl))
  have hcv := Lib.run_convert_string_bytes (P := Tryz.prog) w 9 91 5 t (u := .string) Tryz.underlying9 Tryz.underlying91 Tryz.underlying5
  have hB : ∀ j, j < t.size → (Lib.bytesWorld w 5 t).cell? ⟨w.heap.size, j, none⟩ = some (.int .u8 (t.data.toList.getD j 0).toNat) := fun j hj => Lib.bytesWorld_cell w 5 t j hj
  obtain ⟨W1, hW1⟩ : ∃ W1, W1 = Lib.bytesWorld w 5 t := ⟨_, rfl⟩
  rw [← hW1] at hcv hB ⊢
  clear hW1
  obtain ⟨bs, hL⟩ : ∃ bs, bs = t.data.toList := ⟨_, rfl⟩
  have hLn : bs.length = t.size := by rw [hL, Lib.size_eq]
  rw [← hL] at hB ⊢
  clear hL
  have hmv : IntKind.u64.wrap (IntKind.u64.wrap 65536 - 1) = 65535 := by
    rw [IntKind.wrap_u64, IntKind.wrap_u64]
    decide
  have HB := Lib.hid hB
  clear hB
  go_enter Tryz.func94, Tryz.ntmps94
  go_wp2
  go_loop [12, 13, 101] (fun vu vn vi => ∃ (k acc : Nat) (a : Int), vu = .bool false ∧ vn = .int .u64 a ∧ vi = .int .i64 k ∧ k ≤ t.size ∧ Hid (a = (acc : Int) ∧ acc ≤ 65535 ∧ puN 0 bs = puN acc (bs.drop k)))
    (fun _ _ vi => t.size - (intOf vi).toNat)
  case atStart => exact ⟨0, 0, 0, rfl, rfl, rfl, by omega, rfl, by omega, rfl⟩
  case round =>
    obtain ⟨k, acc, a, rfl, rfl, rfl, hk, hh⟩ := hrel
    obtain ⟨ha, hacc, hdec⟩ := hh.out
    clear hh
    have a0 : 0 ≤ a := by omega
    have a1 : a ≤ 65535 := by omega
    by_cases hkn : k < t.size
    · have hc := HB.out k hkn
      have hdrop : bs.drop k = bs[k]'(by omega) :: bs.drop (k + 1) := List.drop_eq_getElem_cons (by omega)
      have hget : bs.getD k 0 = bs[k]'(by omega) := by simp [List.getD, List.getElem?_eq_getElem (show k < bs.length by omega)]
      rw [hdrop] at hdec
      rw [hget] at hc
      generalize bs[k]'(by omega) = c at hc hdec
      have hc256 : c.toNat < 256 := c.toNat_lt
      clear hdrop hget
      by_cases hdig : 48 ≤ c.toNat ∧ c.toNat ≤ 57
      · obtain ⟨hd0, hd1⟩ := hdig
        have hF := puN_digit acc c (bs.drop (k + 1)) hd0 hd1
        by_cases hov : acc * 16 + (c.toNat - 48) ≤ 65535
        · rw [if_pos hov] at hF
          have HN : Hid (a * 16 + ((c.toNat : Int) - 48) = ((acc * 16 + (c.toNat - 48) : Nat) : Int) ∧ acc * 16 + (c.toNat - 48) ≤ 65535 ∧ puN 0 bs = puN (acc * 16 + (c.toNat - 48)) (bs.drop (k + 1))) := Lib.hid ⟨by omega, by omega, hdec.trans hF⟩
          have iov : a * 16 + ((c.toNat : Int) - 48) ≤ 65535 := by omega
          clear hacc hF hov hdec ha
          go_wp2
          refine ⟨⟨k + 1, acc * 16 + (c.toNat - 48), a * 16 + ((c.toNat : Int) - 48), rfl, (by first | rfl | (congr 1; omega)), (by first | rfl | (congr 1; omega)), by omega, HN⟩, by simp [intOf]; omega⟩
        · rw [if_neg hov] at hF
          rw [hF] at hdec
          have iov : 65535 < a * 16 + ((c.toNat : Int) - 48) := by omega
          clear hacc hF hov ha
          go_wp2
          go_ret2
          first | exact ⟨rfl, rfl⟩ | exact ⟨by rw [hdec]; rfl, rfl⟩
      · by_cases hlet : 97 ≤ (c ||| 32).toNat ∧ (c ||| 32).toNat ≤ 102
        · obtain ⟨hd0, hd1⟩ := hlet
          have hF := puN_letter acc c (bs.drop (k + 1)) hdig hd0 hd1
          have hor := low_or c
          have hdig' : c.toNat < 48 ∨ 57 < c.toNat := by omega
          have hne95 : ((c.toNat : Int) == 95) = false := by
            rw [beq_eq_false_iff_ne]
            intro e
            have : c = 95 := UInt8.toNat_inj.mp (by have : (95 : UInt8).toNat = 95 := rfl; omega)
            subst this
            revert hd0 hd1
            decide
          generalize (c ||| 32).toNat = q at hd0 hd1 hF hor
          have hq0 : (97 : Int) ≤ q := by omega
          have hq1 : (q : Int) ≤ 102 := by omega
          clear hdig
          by_cases hov : acc * 16 + (q - 87) ≤ 65535
          · rw [if_pos hov] at hF
            have HN : Hid (a * 16 + ((q : Int) - 97 + 10) = ((acc * 16 + (q - 87) : Nat) : Int) ∧ acc * 16 + (q - 87) ≤ 65535 ∧ puN 0 bs = puN (acc * 16 + (q - 87)) (bs.drop (k + 1))) := Lib.hid ⟨by omega, by omega, hdec.trans hF⟩
            have iov : a * 16 + ((q : Int) - 97 + 10) ≤ 65535 := by omega
            clear hacc hF hov hdec ha
            rcases hdig' with hdig' | hdig'
            all_goals
              go_wp2_with (go_at_call 111; refine (Tryz.internal_strconv_lower _ _).mono ?_; rintro e w' ⟨rfl, rfl⟩; rw [hor])
              refine ⟨⟨k + 1, acc * 16 + (q - 87), a * 16 + ((q : Int) - 97 + 10), rfl, (by first | rfl | (congr 1; omega)), (by first | rfl | (congr 1; omega)), by omega, HN⟩, by simp [intOf]; omega⟩
          · rw [if_neg hov] at hF
            rw [hF] at hdec
            have iov : 65535 < a * 16 + ((q : Int) - 97 + 10) := by omega
            clear hacc hF hov ha
            rcases hdig' with hdig' | hdig'
            all_goals
              go_wp2_with (go_at_call 111; refine (Tryz.internal_strconv_lower _ _).mono ?_; rintro e w' ⟨rfl, rfl⟩; rw [hor])
              go_ret2
              first | exact ⟨rfl, rfl⟩ | exact ⟨by rw [hdec]; rfl, rfl⟩
        · have hF := puN_other acc c (bs.drop (k + 1)) hdig hlet
          rw [hF] at hdec
          have hor := low_or c
          have hq256 : (c ||| 32).toNat < 256 := (c ||| 32).toNat_lt
          have hdig' : c.toNat < 48 ∨ 57 < c.toNat := by omega
          by_cases h95 : c = 95
          · subst h95
            have k95 : bits .or .u8 95 32 = 127 := by decide +kernel
            clear hacc hF ha hdig hlet hor hq256 hdig'
            go_wp2_with (go_at_call 111; refine (Tryz.internal_strconv_lower _ _).mono ?_; rintro e w' ⟨rfl, rfl⟩; rw [k95])
            go_ret2
            first | exact ⟨rfl, rfl⟩ | exact ⟨by rw [hdec]; rfl, rfl⟩
          · have hne95 : ((c.toNat : Int) == 95) = false := by
              rw [beq_eq_false_iff_ne]
              intro e
              exact h95 (UInt8.toNat_inj.mp (by have : (95 : UInt8).toNat = 95 := rfl; omega))
            generalize (c ||| 32).toNat = q at hlet hF hor hq256
            have hlet' : (q : Int) < 97 ∨ (102 < (q : Int) ∧ (q : Int) ≤ 122) ∨ 122 < (q : Int) := by omega
            clear hacc hF ha hdig hlet h95
            rcases hdig' with hdig' | hdig' <;> rcases hlet' with hlet' | ⟨hlet', hlet''⟩ | hlet'
            all_goals
              go_wp2_with (go_at_call 111; refine (Tryz.internal_strconv_lower _ _).mono ?_; rintro e w' ⟨rfl, rfl⟩; rw [hor])
            all_goals go_ret2
            all_goals first | exact ⟨rfl, rfl⟩ | exact ⟨by rw [hdec]; rfl, rfl⟩
    · have hkk : k = t.size := by omega
      subst hkk
      have hF : puN acc (bs.drop t.size) = .ok acc := by rw [List.drop_eq_nil_of_le (by omega)]; rfl
      rw [hF] at hdec
      subst ha
      clear hacc hF a0 a1
      go_wp2
      go_ret2
      first | exact ⟨rfl, rfl⟩ | exact ⟨by rw [hdec]; rfl, rfl⟩

/-- What the program's ParseUint comes to: the number, or some error. -/
def PuPost (r : Option Nat) (w : World) (e : Ending) (w' : World) : Prop := (match r with
  | some v => e = .returned (.tuple #[.int .u64 v, .nilIface])
  | none => ∃ (x : Int) (T : TypeId) (p : Value), e = .returned (.tuple #[.int .u64 x, .iface T p])) ∧ Below w.heap.size w w'

set_option maxHeartbeats 4000000 in
set_option maxRecDepth 100000 in
theorem parseUint_empty (w : World) : Calls Tryz.prog 94 #[.string ⟨#[]⟩, .int .i64 16, .int .i64 16] w fun e w' => e = .returned (.tuple #[.int .u64 0, .iface 105 (.int .i64 2)]) ∧ w' = w := by
  go_enter Tryz.func94, Tryz.ntmps94
  go_wp2
  go_ret2
  exact ⟨rfl, rfl⟩
structure ErrVars (w : World) : Prop where
  syn : ∃ ev, w.cell? ⟨1, 0, none⟩ = some ev ∧ (ev = .nilIface ∨ ∃ te pe, ev = .iface te pe)
  rng : ∃ ev, w.cell? ⟨2, 0, none⟩ = some ev ∧ (ev = .nilIface ∨ ∃ te pe, ev = .iface te pe)
theorem ErrVars.below {w w' : World} (h : ErrVars w) (hb : Below w.heap.size w w') : ErrVars w' := by
  obtain ⟨⟨e1, h1, g1⟩, ⟨e2, h2, g2⟩⟩ := h
  exact ⟨⟨e1, (hb.cell (p := ⟨1, 0, none⟩) (lt_of_cell h1)).trans h1, g1⟩, ⟨e2, (hb.cell (p := ⟨2, 0, none⟩) (lt_of_cell h2)).trans h2, g2⟩⟩
set_option maxHeartbeats 4000000 in
set_option maxRecDepth 100000 in
theorem parseUint_ok (t : ByteArray) (v : Nat) (w : World) (hI : Calls Tryz.prog 94 #[.string t, .int .i64 16, .int .i64 16] w fun e w' => e = .returned (.tuple #[.int .u64 v, .nilIface]) ∧ Below w.heap.size w w') :
    Calls Tryz.prog 72 #[.string t, .int .i64 16, .int .i64 16] w fun e w' => e = .returned (.tuple #[.int .u64 v, .nilIface]) ∧ Below w.heap.size w w' := by
  go_enter Tryz.func72, Tryz.ntmps72
  go_wp2_with (go_at_call 94; refine hI.mono ?_; rintro e w' ⟨rfl, hb⟩)
  go_ret2
  exact ⟨rfl, hb⟩
set_option maxHeartbeats 4000000 in
set_option maxRecDepth 100000 in
theorem parseUint_bad (t : ByteArray) (x k : Int) (w : World) (hlim : t.size ≤ 281474976710656) (hk : k = 1 ∨ k = 2) (hv : ErrVars w) (hI : Calls Tryz.prog 94 #[.string t, .int .i64 16, .int .i64 16] w fun e w' => e = .returned (.tuple #[.int .u64 x, .iface 105 (.int .i64 k)]) ∧ Below w.heap.size w w') :
    Calls Tryz.prog 72 #[.string t, .int .i64 16, .int .i64 16] w fun e w' => (∃ (T : TypeId) (p : Value), e = .returned (.tuple #[.int .u64 x, .iface T p])) ∧ Below w.heap.size w w' := by
  have HV := Lib.hid hv
  clear hv
  rcases hk with rfl | rfl
  · go_enter Tryz.func72, Tryz.ntmps72
    go_wp2_with (go_at_call 94; refine hI.mono ?_; rintro e w1 ⟨rfl, hb⟩)
    obtain ⟨ev, h1, h2⟩ := (HV.out.below hb).rng
    go_at_call 59
    refine (Tryz.strconv_toError_range ⟨#[80, 97, 114, 115, 101, 85, 105, 110, 116]⟩ t 16 16 ev _ hlim h1 h2).mono ?_
    rintro e w2 ⟨N, rfl, g1, g2, g3⟩
    clear h1 g2
    go_wp2_with fail
    go_ret2
    exact ⟨⟨_, _, rfl⟩, bnext hb g3⟩
  · go_enter Tryz.func72, Tryz.ntmps72
    go_wp2_with (go_at_call 94; refine hI.mono ?_; rintro e w1 ⟨rfl, hb⟩)
    obtain ⟨ev, h1, h2⟩ := (HV.out.below hb).syn
    go_at_call 59
    refine (Tryz.strconv_toError_syntax ⟨#[80, 97, 114, 115, 101, 85, 105, 110, 116]⟩ t 16 16 ev _ hlim h1 h2).mono ?_
    rintro e w2 ⟨N, rfl, g1, g2, g3⟩
    clear h1 g2
    go_wp2_with fail
    go_ret2
    exact ⟨⟨_, _, rfl⟩, bnext hb g3⟩
theorem parseUint_calls (t : ByteArray) (w : World) (hlim : t.size ≤ 281474976710656) (hv : ErrVars w) : Calls Tryz.prog 72 #[.string t, .int .i64 16, .int .i64 16] w (PuPost (grp1 t.data.toList) w) := by
  unfold grp1 PuPost
  by_cases h0 : t.data.toList = []
  · rw [if_pos h0]
    obtain rfl : t = ⟨#[]⟩ := by rw [← Lib.mk_data t, h0]
    exact (parseUint_bad _ 0 2 w hlim (Or.inr rfl) hv ((parseUint_empty w).mono fun e w' ⟨h1, h2⟩ => ⟨h1, h2 ▸ Below.refl _ _⟩)).mono fun e w' ⟨⟨T, p, h1⟩, h2⟩ => ⟨⟨_, T, p, h1⟩, h2⟩
  · rw [if_neg h0, puN_pu]
    have hne : t.size ≠ 0 := fun e => h0 (List.eq_nil_of_length_eq_zero (by rw [← Lib.size_eq]; exact e))
    have hI := parseUint_inner t hne (by omega) w
    have hI' : Calls Tryz.prog 94 #[.string t, .int .i64 16, .int .i64 16] w fun e w' => e = .returned (puTuple 105 (puN 0 t.data.toList)) ∧ Below w.heap.size w w' := hI.mono fun e w' ⟨h1, h2⟩ => ⟨h1, h2 ▸ Lib.bytesWorld_below _ _ _⟩
    clear hI
    cases hr : puN 0 t.data.toList with
    | ok v =>
      rw [hr] at hI'
      exact (parseUint_ok t v w hI').mono fun e w' ⟨h1, h2⟩ => ⟨h1, h2⟩
    | bad =>
      rw [hr] at hI'
      exact (parseUint_bad t 0 2 w hlim (Or.inr rfl) hv hI').mono fun e w' ⟨⟨T, p, h1⟩, h2⟩ => ⟨⟨_, T, p, h1⟩, h2⟩
    | big =>
      rw [hr] at hI'
      exact (parseUint_bad t 65535 1 w hlim (Or.inl rfl) hv hI').mono fun e w' ⟨⟨T, p, h1⟩, h2⟩ => ⟨⟨_, T, p, h1⟩, h2⟩
end Go.Proofs.YtgbkeciimddpnaaGreatDoor.Print
