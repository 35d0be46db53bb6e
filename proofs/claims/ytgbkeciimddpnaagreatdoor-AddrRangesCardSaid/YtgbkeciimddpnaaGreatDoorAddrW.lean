/-
The walk of addr.words: up to eight groups between colons.
Conditions: texts shorter than 4294967281 bytes; the library's variables hold what they hold.
-/
import Derived.Test.YtgbkeciimddpnaaGreatDoorAddrQ
import Derived.Test.YtgbkeciimddpnaaGreatDoorAddrU
import Derived.OwnWalk
namespace Go.Proofs.YtgbkeciimddpnaaGreatDoor.Print
open Go Go.RowKit Go.Proofs.YtgbkeciimddpnaaGreatDoor.AddrP

theorem own_below {w w1 : World} {base : Nat} {e : TypeId} {size n : Nat} {v : Value} {xs : List Value} (h : w.ownsRow base e size v n xs) (hb : Below w.heap.size w w1) : w1.ownsRow base e size v n xs :=
  h.kept (row := none) ⟨hb.os, hb.tape, hb.output, hb.size, fun i hi _ => hb.block i hi⟩ (by cases h' : v.ownBlock <;> simp)
theorem own_mono {w : World} {base base' : Nat} {e : TypeId} {size n : Nat} {v : Value} {xs : List Value} (h : w.ownsRow base e size v n xs) (hb : base' ≤ base) : w.ownsRow base' e size v n xs :=
  ⟨h.1, h.2.imp id fun ⟨g, cap, cur, a, b, r⟩ => ⟨g, cap, cur, a, Nat.le_trans hb b, r⟩⟩
theorem Tryz.info62 : (Tryz.prog.info? 62).map (fun i => (i.zero, i.size, i.bytes)) = some (some (.int .u16 0), 1, 2) := by kernel_rfl
/-- The words behind a cut at one byte. -/
def pieces (c : UInt8) (s : ByteArray) : List ByteArray := Lib.splitB ⟨#[c]⟩ 0 (Lib.countB s ⟨#[c]⟩) s
theorem pieces_data (c : UInt8) (s : ByteArray) : (pieces c s).map (·.data.toList) = cutAt c s.data.toList := by
  unfold pieces
  rw [Lib.splitB_data, ← split_cutAt]
  rfl
theorem pieces_len (c : UInt8) (s : ByteArray) : (pieces c s).length = Lib.countB s ⟨#[c]⟩ + 1 := Lib.splitB_all _ (Nat.le_refl _) 0 _ s rfl
theorem splitB_sizes (sep : ByteArray) (save : Nat) : ∀ (k : Nat) (s : ByteArray), ∀ x ∈ Lib.splitB sep save k s, x.size ≤ s.size
  | 0, s, x, hx => by
    simp [Lib.splitB] at hx
    rw [hx]; exact Nat.le_refl _
  | k + 1, s, x, hx => by
    unfold Lib.splitB at hx
    split at hx
    · simp at hx; rw [hx]; exact Nat.le_refl _
    · rcases List.mem_cons.mp hx with h | h
      · rw [h, ByteArray.size_extract]; omega
      · have := splitB_sizes sep save k _ x h
        rw [ByteArray.size_extract] at this
        omega
theorem pieces_size (c : UInt8) (s : ByteArray) : ∀ x ∈ pieces c s, x.size ≤ s.size := splitB_sizes _ _ _ _
theorem split_calls (s : ByteArray) (c : UInt8) (m : Int) (w : World) (hs : s.size < 4294967281) (hm : w.cell? ⟨0, 0, none⟩ = some (.int .i64 m)) :
    Calls Tryz.prog 46 #[.string s, .string ⟨#[c]⟩] w fun e w' => e = .returned (.slice (some ⟨w.heap.size, 0, none⟩) (pieces c s).length (pieces c s).length) ∧ w' = w.alloc (.cells ((pieces c s).map Value.string).toArray 9) := by
  rw [pieces_len]
  exact Tryz.strings_Split s ⟨#[c]⟩ m w hs hm (Nat.le_refl _)

/-- What words hands back. -/
def WordsPost (r : Option (List Nat)) (w : World) (e : Ending) (w' : World) : Prop := (match r with
  | some xs => ∃ v : Value, e = .returned (.tuple #[v, .bool true]) ∧ w'.ownsRow w.heap.size 62 1 v xs.length (xs.map fun x : Nat => Value.int .u16 (x : Int))
  | none => e = .returned (.tuple #[.slice none 0 0, .bool false])) ∧ Below w.heap.size w w'
theorem wordsFrom_cons (xs : List Nat) (x : List UInt8) (r : List (List UInt8)) : wordsFrom xs (x :: r) = match grp1 x with
    | none => none
    | some v => if xs.length = 8 then none else wordsFrom (xs ++ [v]) r := rfl
theorem grp1_le (l : List UInt8) (v : Nat) (h : grp1 l = some v) : v ≤ 65535 := by
  have : ∀ (l : List UInt8) (acc : Nat), acc ≤ 65535 → pu acc l = some v → v ≤ 65535 := by
    intro l
    induction l with
    | nil => intro acc h0 h1; simp [pu] at h1; omega
    | cons c l ih =>
      intro acc h0 h1
      rw [pu] at h1
      cases hd : hexd c with
      | none => rw [hd] at h1; cases h1
      | some d =>
        rw [hd] at h1
        simp only at h1
        split at h1
        · exact ih _ ‹_› h1
        · cases h1
  unfold grp1 at h
  split at h
  · cases h
  · exact this l 0 (by omega) h
set_option maxHeartbeats 1600000 in
theorem words_empty (w : World) : Calls Tryz.prog 49 #[.string ⟨#[]⟩] w fun e w' => e = .returned (.tuple #[.slice none 0 0, .bool true]) ∧ Below w.heap.size w w' := by
  go_enter Tryz.func49, Tryz.ntmps49
  go_wp2_with fail
  go_ret2
  exact ⟨rfl, Below.refl _ _⟩
set_option maxRecDepth 100000 in
set_option maxHeartbeats 6400000 in
theorem words_some (s : ByteArray) (m : Int) (w : World) (hs : s.size < 4294967281) (he : s.toList.isEmpty = false) (hm : w.cell? ⟨0, 0, none⟩ = some (.int .i64 m)) (hv : ErrVars w) :
    Calls Tryz.prog 49 #[.string s] w (WordsPost (wordsFrom [] (cutAt 58 s.data.toList)) w) := by
  obtain ⟨i0, hi, hz0, hz1, hz2⟩ := info_parts Tryz.info62
  obtain ⟨L, hL⟩ : ∃ L, L = cutAt 58 s.data.toList := ⟨_, rfl⟩
  have HL : Hid (L = (pieces 58 s).map (·.data.toList)) := Lib.hid (by rw [pieces_data, hL])
  have hS := split_calls s 58 m w hs hm
  have HSZ := Lib.hid (pieces_size 58 s)
  rw [← hL]
  clear hL
  obtain ⟨l, hl⟩ : ∃ l, l = pieces 58 s := ⟨_, rfl⟩
  rw [← hl] at hS HL HSZ
  have hlen : l.length ≤ 4294967281 := by
    have := Lib.countB_le ⟨#[58]⟩ (Nat.le_refl _) s.size s (Nat.le_refl _)
    rw [hl, pieces_len]
    omega
  obtain ⟨W, hW⟩ : ∃ W, W = w.alloc (.cells (l.map Value.string).toArray 9) := ⟨_, rfl⟩
  rw [← hW] at hS
  have hWs : W.heap.size = w.heap.size + 1 := by rw [hW]; simp
  have hWb : Below w.heap.size w W := by rw [hW]; exact ba1 _ _
  have HWc : Hid (∀ (j : Nat) x, l[j]? = some x → W.cell? ⟨w.heap.size, j, none⟩ = some (.string x)) := Lib.hid fun j x hj => by rw [hW, World.cell?_alloc_new]; simp [hj]
  have HV := Lib.hid (hv.below hWb)
  have HS := Lib.hid hS
  have HWs := Lib.hid hWs
  clear hl hW hS hv hm hWs
  go_enter Tryz.func49, Tryz.ntmps49
  go_wp2_with (go_at_call 46; refine HS.out.mono ?_; rintro e w1 ⟨rfl, hw1⟩; have hw2 := hw1.symm; clear hw1; subst hw2)
  go_loopw [4, 14] (fun v i wr => ∃ (k : Nat) (xs : List Nat), k ≤ l.length ∧ i = .int .i64 k ∧ wr.ownsRow (w.heap.size + 1) 62 1 v xs.length (xs.map fun x : Nat => Value.int .u16 (x : Int)) ∧ Hid (wordsFrom [] L = wordsFrom xs (L.drop k)) ∧ xs.length ≤ 8 ∧ Below (w.heap.size + 1) W wr) (fun _ i _ => l.length - (intOf i).toNat)
  case atStart => exact ⟨0, [], by omega, rfl, World.ownsRow_nil _ _ _ _, Lib.hid rfl, by simp, Below.refl _ _⟩
  case round =>
    obtain ⟨k, xs, hk, rfl, hown, hq, hx8, hB⟩ := hrel
    by_cases hlt : k < l.length
    · obtain ⟨x, hx⟩ : ∃ x, l[k]? = some x := ⟨_, List.getElem?_eq_getElem hlt⟩
      have hcell : wr.cell? ⟨w.heap.size, k, none⟩ = some (.string x) := (hB.cell (p := ⟨w.heap.size, k, none⟩) (by simp)).trans (HWc.out k x hx)
      have hBW : Below W.heap.size W wr := by rw [HWs.out]; exact hB
      have hsize := hBW.size
      rw [HWs.out] at hsize
      have hpu := parseUint_calls x wr (by have := HSZ.out x (List.mem_of_getElem? hx); omega) (HV.out.below hBW)
      have hdrop : L.drop k = x.data.toList :: L.drop (k + 1) := by
        rw [HL.out, List.drop_eq_getElem_cons (by simpa using hlt)]
        congr 1
        rw [List.getElem_map]
        rw [List.getElem?_eq_getElem hlt] at hx
        rw [Option.some.inj hx]
      have hqq := hq.out
      rw [hdrop, wordsFrom_cons] at hqq
      unfold PuPost at hpu
      cases hv : grp1 x.data.toList with
      | none =>
        rw [hv] at hpu hqq
        simp only at hpu hqq
        have HN := Lib.hid hpu
        have HQ := Lib.hid hqq
        clear hpu hqq hv hdrop hx hq hBW hown
        go_wp2_with (go_at_call 72; refine HN.out.mono ?_; rintro e w1 ⟨⟨xx, T, p, rfl⟩, hb⟩)
        go_ret2
        rw [HQ.out]
        exact ⟨rfl, hWb.trans ((hB.mono (Nat.le_succ _)).trans (hb.mono (by omega)))⟩
      | some v =>
        rw [hv] at hpu hqq
        simp only at hpu hqq
        have hv6 := grp1_le _ _ hv
        have HN := Lib.hid hpu
        have hcv : IntKind.u16.wrap (v : Int) = (v : Int) := IntWalk.u16_in _ (by omega)
        by_cases h8 : xs.length = 8
        · rw [if_pos h8] at hqq
          have HQ := Lib.hid hqq
          have h8' : ((xs.length : Int) == 8) = true := by rw [beq_iff_eq]; omega
          clear hpu hqq hv hdrop hx hq hBW
          rcases hown.form (by omega) with ⟨g, cap, rfl, hg1, hg2⟩
          go_wp2_with (go_at_call 72; refine HN.out.mono ?_; rintro e w1 ⟨rfl, hb⟩)
          go_ret2
          rw [HQ.out]
          exact ⟨rfl, hWb.trans ((hB.mono (Nat.le_succ _)).trans (hb.mono (by omega)))⟩
        · rw [if_neg h8] at hqq
          have HQ := Lib.hid hqq
          have h8' : ((xs.length : Int) == 8) = false := by rw [beq_eq_false_iff_ne]; omega
          have h7 : xs.length ≤ 7 := by omega
          obtain ⟨A, cap, rfl⟩ : ∃ A cap, u4 = .slice A xs.length cap := by
            rcases hown.2 with ⟨h1, h2⟩ | ⟨g, cap, cur, h1, _⟩
            · exact ⟨none, 0, by rw [h1, h2]⟩
            · exact ⟨_, _, h1⟩
          have HO := Lib.hid hown
          clear hpu hqq hv hdrop hx hq hBW h8 hown
          go_wp2_with (first
            | (go_at_call 72; refine HN.out.mono ?_; rintro e w1 ⟨rfl, hb⟩)
            | (at_builtin; refine wpList_append_own _ rfl (.tmp 30) (.tmp 33) 66 rfl (w.heap.size + 1) 62 i0 (.int .u16 0) 1 2 Tryz.underlying66 hi hz0 hz1 hz2 rfl (by decide) _ _ _ rfl ((own_below HO.out hb).alloc _) ⟨w1.heap.size, 0, none⟩ 1 1 [.int .u16 (v : Int)] rfl rfl ?c1 ?c2 ?c3 ?c4 ?c5 ?_))
          case c1 =>
            intro j u hj
            match j, hj with
            | 0, hj => simp at hj; subst hj; simp [Addr.add]
          case c2 => intro u hu; simp at hu; subst hu; rfl
          case c3 => unfold maxLen; omega
          case c4 => omega
          case c5 => have := hb.size; simp; omega
          intro v' w2 hown' hgrow _
          have hsz1 := hb.size
          have HB2 : Below (w.heap.size + 1) W w2 := (((hB.trans (hb.mono hsize)).alloc (by omega) _).grown hgrow (by simp; omega) (fun j hj => by have := (HO.out.lt j hj).1; omega))
          have HO2 : w2.ownsRow (w.heap.size + 1) 62 1 v' (xs ++ [v]).length ((xs ++ [v]).map fun x : Nat => Value.int .u16 (x : Int)) := by simpa using hown'
          clear hown' hgrow HO hb
          go_wp2_with fail
          go_roundw
          case rel => exact ⟨k + 1, xs ++ [v], by omega, by go_num, HO2, HQ, by simp; omega, HB2⟩
          case measure => simp [intOf]; omega
    · obtain rfl : k = l.length := by omega
      have hqq : wordsFrom [] L = some xs := by
        rw [hq.out, List.drop_eq_nil_of_le (by rw [HL.out]; simp)]
        rfl
      have HQ := Lib.hid hqq
      have HO := Lib.hid hown
      clear hq hqq hown
      go_wp2_with fail
      go_ret2
      rw [HQ.out]
      exact ⟨⟨_, rfl, own_mono HO.out (Nat.le_succ _)⟩, hWb.trans (hB.mono (Nat.le_succ _))⟩
theorem words_calls (s : ByteArray) (m : Int) (w : World) (hs : s.size < 4294967281) (hm : w.cell? ⟨0, 0, none⟩ = some (.int .i64 m)) (hv : ErrVars w) :
    Calls Tryz.prog 49 #[.string s] w (WordsPost (wordsL s.data.toList) w) := by
  unfold wordsL
  by_cases h0 : s.data.toList = []
  · rw [if_pos h0]
    obtain rfl : s = ⟨#[]⟩ := by rw [← Lib.mk_data s, h0]
    exact (words_empty w).mono fun e w' ⟨h1, h2⟩ => ⟨⟨_, h1, World.ownsRow_nil _ _ _ _⟩, h2⟩
  · rw [if_neg h0]
    exact words_some s m w hs (emp_false s h0) hm hv
end Go.Proofs.YtgbkeciimddpnaaGreatDoor.Print
