/-
Ranges in text: what ParseRange comes to, the program's and the reference's.
Conditions: the library's variables hold what they hold; a text of at most 4096 bytes.
-/
import Derived.Test.YtgbkeciimddpnaaGreatDoorAddrRe
namespace Go.Proofs.YtgbkeciimddpnaaGreatDoor.Ranges
open Go Go.RowKit Go.Proofs.YtgbkeciimddpnaaGreatDoorW.PrintWords Go.Proofs.YtgbkeciimddpnaaGreatDoor.Print Go.Proofs.YtgbkeciimddpnaaGreatDoor.AddrP
/-- What ParseRange comes to where a slash stands at i. -/
def rgSlash (a b : List UInt8) : Int × Int × Int × Int × Int :=
  if ((pz a).2.2 != 0) = true then (0, 0, 0, 0, (pz a).2.2) else if numI b < 0 then (0, 0, 0, 0, 31) else prefP (pz a).1 (pz a).2.1 (numI b)
/-- .. where a dash. -/
def rgDash (a b : List UInt8) : Int × Int × Int × Int × Int :=
  if ((pz a).2.2 != 0) = true ∨ ((pz b).2.2 != 0) = true then (0, 0, 0, 0, 30)
  else if is4 (pz a).1 (pz a).2.1 ≠ is4 (pz b).1 (pz b).2.1 ∨ 0 < cmpA (pz a).1 (pz a).2.1 (pz b).1 (pz b).2.1 then (0, 0, 0, 0, 31)
  else ((pz a).1, (pz a).2.1, (pz b).1, (pz b).2.1, 0)
/-- What ParseRange comes to. -/
def parseRg (l : List UInt8) : Int × Int × Int × Int × Int :=
  if 0 ≤ Lib.indexByte l 47 then rgSlash (l.take (Lib.indexByte l 47).toNat) (l.drop ((Lib.indexByte l 47).toNat + 1))
  else if 0 ≤ Lib.indexByte l 45 then rgDash (l.take (Lib.indexByte l 45).toNat) (l.drop ((Lib.indexByte l 45).toNat + 1))
  else ((pz l).1, (pz l).2.1, (pz l).1, (pz l).2.1, (pz l).2.2)
theorem idx_at (s : ByteArray) (c : UInt8) (h : 0 ≤ Lib.indexByte s.data.toList c) : ∃ i : Nat, Lib.indexByte s.data.toList c = i ∧ i < s.size := by
  have hz : s.data.toList.length = s.size := (Lib.size_eq s).symm
  rcases idx_lt s.data.toList c with h1 | h1
  · exact ⟨(Lib.indexByte s.data.toList c).toNat, by omega, by omega⟩
  · omega
theorem idx_no (s : ByteArray) (c : UInt8) (h : ¬ 0 ≤ Lib.indexByte s.data.toList c) : Lib.indexByte s.data.toList c = -1 := by
  have := Lib.indexByte_ge s.data.toList c
  omega
theorem ext_l (s : ByteArray) (i : Nat) : (s.extract 0 i).data.toList = s.data.toList.take i := by rw [Lib.extract_data]; simp
theorem ext_r (s : ByteArray) (i : Nat) : (s.extract i s.size).data.toList = s.data.toList.drop i := by
  have hz : s.data.toList.length = s.size := (Lib.size_eq s).symm
  rw [Lib.extract_data, List.take_of_length_le (by rw [List.length_drop]; omega)]
theorem ext_le (s : ByteArray) (i j : Nat) : (s.extract i j).size ≤ s.size := by rw [ByteArray.size_extract]; omega
theorem num_val (s : ByteArray) (hs : s.size ≤ 4096) : ∃ (nn : Int) (ok : Bool), (∀ w, Calls Tryz.prog 19 #[.string s] w fun e' w' => e' = .returned (.tuple #[.int .i64 nn, .bool ok]) ∧ Below w.heap.size w w') ∧ (∀ w, Calls Tryz.prog 23 #[.string s] w fun e' w' => e' = .returned (.int .i64 (numI s.data.toList)) ∧ Below w.heap.size w w') ∧
    ((ok = true ∧ nn = numI s.data.toList ∧ ¬ numI s.data.toList < 0) ∨ (ok = false ∧ numI s.data.toList < 0)) := by
  have h1 := fun w => number_calls s (by omega) w
  unfold NumPost at h1
  have h2 : ∀ w, Calls Tryz.prog 23 #[.string s] w fun e' w' => e' = .returned (.int .i64 (numI s.data.toList)) ∧ Below w.heap.size w w' := fun w =>
    (sallyportref03_Number.calls 20 s _ w (refNum_is s 20 (by omega) (by omega))).mono fun e' w' h => ⟨h.1, h.2.below⟩
  unfold numI at h2 ⊢
  cases hn : numL s.data.toList with
  | none =>
    rw [hn] at h1 h2
    exact ⟨_, _, h1, h2, .inr ⟨rfl, by decide⟩⟩
  | some n =>
    rw [hn] at h1 h2
    exact ⟨_, _, h1, h2, .inl ⟨rfl, rfl, by simp⟩⟩
theorem triple (x : Int × Int × Int) : x = (x.1, x.2.1, x.2.2) := rfl
theorem parseRg_both (s : ByteArray) (hs : s.size ≤ 4096) (q0 q1 q2 q3 qe : Int) (h : parseRg s.data.toList = (q0, q1, q2, q3, qe)) :
    (∀ w : World, LibVars w → PrVars w → Calls Tryz.prog 7 #[.string s] w fun e' w' => e' = .returned (.tuple #[.agg #[.int .u64 q0, .int .u64 q1, .int .u64 q2, .int .u64 q3], .int .i64 qe]) ∧ Below w.heap.size w w') ∧
    (∀ w : World, Calls Tryz.prog 8 #[.string s] w fun e' w' => e' = .returned (.tuple #[.agg #[.int .u64 q0, .int .u64 q1, .int .u64 q2, .int .u64 q3], .int .i64 qe]) ∧ Below w.heap.size w w') := by
  have hz : s.data.toList.length = s.size := (Lib.size_eq s).symm
  have ix : ∀ (c : UInt8) (z : Int) (i : Int), z = c.toNat → Lib.indexByte s.data.toList c = i → ∀ w, Calls Tryz.prog 17 #[.string s, .int .u8 z] w fun e w' => e = .returned (.int .i64 i) ∧ w' = w := by
    rintro c z i rfl hi w
    have := Tryz.strings_IndexByte s c.toNat w
    rw [show (((c.toNat : Nat) : Int).toNat.toUInt8) = c by simp, hi] at this
    exact this
  have fx : ∀ (c : UInt8) (z : Int) (i : Int), z = c.toNat → Lib.indexByte s.data.toList c = i → ∀ w, Calls Tryz.prog 21 #[.string s, .int .u8 z] w fun e w' => e = .returned (.int .i64 i) ∧ Drawn0 w w' := by
    rintro c z i rfl hi w
    exact first_val s c i (by omega) (Lib.hid hi) w
  unfold parseRg at h
  by_cases h47 : 0 ≤ Lib.indexByte s.data.toList 47
  · rw [if_pos h47] at h
    obtain ⟨i, hi, hlt⟩ := idx_at s 47 h47
    rw [hi, Int.toNat_natCast, ← ext_l, ← ext_r] at h
    have sa := ext_le s 0 i
    have sb := ext_le s (i + 1) s.size
    generalize hA : s.extract 0 i = A at h sa
    generalize hB : s.extract (i + 1) s.size = B at h sb
    obtain ⟨nn, ok, n1, n2, n3⟩ := num_val B (by omega)
    have b := pz_bound (Lib.hid (triple (pz A.data.toList)))
    have P1 := fun w hl hp => parse_pz A _ _ _ (by omega) (Lib.hid (triple (pz A.data.toList))) w hl hp
    have P2 := fun w => refParse_pz A _ _ _ (Lib.hid (triple (pz A.data.toList))) w
    unfold rgSlash at h
    generalize (pz A.data.toList).1 = x0 at *
    generalize (pz A.data.toList).2.1 = x1 at *
    generalize (pz A.data.toList).2.2 = e at *
    generalize numI B.data.toList = m at *
    have F1 := fun n w => prefix_val x0 x1 n _ _ _ _ _ b.1 b.2.1 (Lib.hid rfl) w
    have F2 := fun n w => refPrefix_val x0 x1 n _ _ _ _ _ b.1 b.2.1 (Lib.hid rfl) w
    subst hA hB
    have hq : ((e != 0) = true ∧ q0 = 0 ∧ q1 = 0 ∧ q2 = 0 ∧ q3 = 0 ∧ qe = e) ∨ (e = 0 ∧ m < 0 ∧ q0 = 0 ∧ q1 = 0 ∧ q2 = 0 ∧ q3 = 0 ∧ qe = 31) ∨ (e = 0 ∧ ¬ m < 0 ∧ q0 = (prefP x0 x1 m).1 ∧ q1 = (prefP x0 x1 m).2.1 ∧ q2 = (prefP x0 x1 m).2.2.1 ∧ q3 = (prefP x0 x1 m).2.2.2.1 ∧ qe = (prefP x0 x1 m).2.2.2.2) := by
      by_cases he : (e != 0) = true
      · rw [if_pos he] at h; cases h; exact .inl ⟨he, rfl, rfl, rfl, rfl, rfl⟩
      · have he0 : e = 0 := by simpa using he
        rw [if_neg he] at h
        by_cases hm : m < 0
        · rw [if_pos hm] at h; cases h; exact .inr (.inl ⟨he0, hm, rfl, rfl, rfl, rfl, rfl⟩)
        · rw [if_neg hm] at h; rw [h]; exact .inr (.inr ⟨he0, hm, rfl, rfl, rfl, rfl, rfl⟩)
    constructor
    · intro w hl hp
      refine pr_slash s i _ x0 x1 e nn _ _ _ _ _ q0 q1 q2 q3 qe ok w hlt hs hl hp (Lib.hid ?_) (ix 47 _ _ rfl hi) (ix 45 _ _ rfl rfl) P1 n1 (F1 nn)
      rcases hq with hq | ⟨h1, h2, h3⟩ | ⟨h1, h2, h3⟩
      · exact .inl hq
      · rcases n3 with ⟨_, _, h4⟩ | ⟨h4, _⟩
        · exact absurd h2 h4
        · exact .inr (.inl ⟨h1, h4, h3⟩)
      · rcases n3 with ⟨h4, h5, _⟩ | ⟨_, h4⟩
        · rw [h5]; exact .inr (.inr ⟨h1, h4, h3⟩)
        · exact absurd h4 h2
    · intro w
      exact rr_slash s i x0 x1 e m _ _ _ _ _ q0 q1 q2 q3 qe w hlt hs (Lib.hid hq) (fx 47 _ _ rfl hi) P2 n2 (F2 m)
  · rw [if_neg h47] at h
    have i47 := idx_no s 47 h47
    by_cases h45 : 0 ≤ Lib.indexByte s.data.toList 45
    · rw [if_pos h45] at h
      obtain ⟨i, hi, hlt⟩ := idx_at s 45 h45
      rw [hi, Int.toNat_natCast, ← ext_l, ← ext_r] at h
      have sa := ext_le s 0 i
      have sb := ext_le s (i + 1) s.size
      have P1 := fun w hl hp => parse_pz (s.extract 0 i) _ _ _ (by omega) (Lib.hid (triple _)) w hl hp
      have P2 := fun w => refParse_pz (s.extract 0 i) _ _ _ (Lib.hid (triple _)) w
      have P3 := fun w hl hp => parse_pz (s.extract (i + 1) s.size) _ _ _ (by omega) (Lib.hid (triple _)) w hl hp
      have P4 := fun w => refParse_pz (s.extract (i + 1) s.size) _ _ _ (Lib.hid (triple _)) w
      unfold rgDash at h
      generalize (pz (s.extract 0 i).data.toList).1 = x0 at *
      generalize (pz (s.extract 0 i).data.toList).2.1 = x1 at *
      generalize (pz (s.extract 0 i).data.toList).2.2 = e at *
      generalize (pz (s.extract (i + 1) s.size).data.toList).1 = y0 at *
      generalize (pz (s.extract (i + 1) s.size).data.toList).2.1 = y1 at *
      generalize (pz (s.extract (i + 1) s.size).data.toList).2.2 = f at *
      have hcm : (0 < cmpA x0 x1 y0 y1) ↔ (cmpA y0 y1 x0 x1 < 0) := by
        rcases cmpA_cases x0 x1 y0 y1 with ⟨a, b⟩ | ⟨a, a', b⟩ | ⟨a, b⟩ <;> rcases cmpA_cases y0 y1 x0 x1 with ⟨c, d⟩ | ⟨c, c', d⟩ | ⟨c, d⟩ <;> rw [b, d] <;> omega
      have hq : ((e != 0) = true ∧ q0 = 0 ∧ q1 = 0 ∧ q2 = 0 ∧ q3 = 0 ∧ qe = 30) ∨ (e = 0 ∧ (f != 0) = true ∧ q0 = 0 ∧ q1 = 0 ∧ q2 = 0 ∧ q3 = 0 ∧ qe = 30) ∨ (e = 0 ∧ f = 0 ∧ is4 x0 x1 = !is4 y0 y1 ∧ q0 = 0 ∧ q1 = 0 ∧ q2 = 0 ∧ q3 = 0 ∧ qe = 31) ∨
          (e = 0 ∧ f = 0 ∧ is4 x0 x1 = is4 y0 y1 ∧ 0 < cmpA x0 x1 y0 y1 ∧ q0 = 0 ∧ q1 = 0 ∧ q2 = 0 ∧ q3 = 0 ∧ qe = 31) ∨ (e = 0 ∧ f = 0 ∧ is4 x0 x1 = is4 y0 y1 ∧ ¬ 0 < cmpA x0 x1 y0 y1 ∧ x0 = q0 ∧ x1 = q1 ∧ y0 = q2 ∧ y1 = q3 ∧ qe = 0) := by
        by_cases he : (e != 0) = true
        · rw [if_pos (.inl he)] at h; cases h; exact .inl ⟨he, rfl, rfl, rfl, rfl, rfl⟩
        · have he0 : e = 0 := by simpa using he
          by_cases hf : (f != 0) = true
          · rw [if_pos (.inr hf)] at h; cases h; exact .inr (.inl ⟨he0, hf, rfl, rfl, rfl, rfl, rfl⟩)
          · have hf0 : f = 0 := by simpa using hf
            rw [if_neg (fun x => x.elim he hf)] at h
            by_cases hb : is4 x0 x1 = is4 y0 y1
            · by_cases hc : 0 < cmpA x0 x1 y0 y1
              · rw [if_pos (.inr hc)] at h; cases h; exact .inr (.inr (.inr (.inl ⟨he0, hf0, hb, hc, rfl, rfl, rfl, rfl, rfl⟩)))
              · rw [if_neg (fun x => x.elim (fun y => y hb) hc)] at h; cases h; exact .inr (.inr (.inr (.inr ⟨he0, hf0, hb, hc, rfl, rfl, rfl, rfl, rfl⟩)))
            · rw [if_pos (.inl hb)] at h; cases h
              exact .inr (.inr (.inl ⟨he0, hf0, by revert hb; cases is4 x0 x1 <;> cases is4 y0 y1 <;> simp, rfl, rfl, rfl, rfl, rfl⟩))
      constructor
      · intro w hl hp
        exact pr_dash s i x0 x1 e y0 y1 f _ q0 q1 q2 q3 qe _ _ w hlt hs hl hp (Lib.hid hq) (ix 47 _ _ rfl i47) (ix 45 _ _ rfl hi) P1 P3 (fun w => is4_calls _ _ w) (fun w => is4_calls _ _ w) (fun w => compare_calls _ _ _ _ w)
      · intro w
        refine rr_dash s i x0 x1 e y0 y1 f q0 q1 q2 q3 qe (is4 x0 x1) (is4 y0 y1) (decide (cmpA y0 y1 x0 x1 < 0)) w hlt hs (Lib.hid ?_) (fx 47 _ _ rfl i47) (fx 45 _ _ rfl hi) P2 P4 (fun w => refIs4_calls _ _ w) (fun w => refIs4_calls _ _ w) (fun w => refLess_val _ _ _ _ _ (Lib.hid rfl) w)
        rcases hq with hq | hq | hq | ⟨h1, h2, h3, h4, h5⟩ | ⟨h1, h2, h3, h4, h5⟩
        · exact .inl hq
        · exact .inr (.inl hq)
        · exact .inr (.inr (.inl hq))
        · exact .inr (.inr (.inr (.inl ⟨h1, h2, h3, decide_eq_true (hcm.mp h4), h5⟩)))
        · exact .inr (.inr (.inr (.inr ⟨h1, h2, h3, decide_eq_false (fun x => h4 (hcm.mpr x)), h5⟩)))
    · rw [if_neg h45] at h
      have i45 := idx_no s 45 h45
      cases h
      exact ⟨fun w hl hp => pr_plain s _ _ _ w hl hp (ix 47 _ _ rfl i47) (ix 45 _ _ rfl i45) (fun w hl hp => parse_pz s _ _ _ (by omega) (Lib.hid (triple _)) w hl hp),
        fun w => rr_plain s _ _ _ w (fx 47 _ _ rfl i47) (fx 45 _ _ rfl i45) (fun w => refParse_pz s _ _ _ (Lib.hid (triple _)) w)⟩
end Go.Proofs.YtgbkeciimddpnaaGreatDoor.Ranges
