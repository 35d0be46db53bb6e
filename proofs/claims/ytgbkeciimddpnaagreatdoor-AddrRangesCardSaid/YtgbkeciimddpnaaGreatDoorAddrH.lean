/-
The walk of addr.hexed: groups in digits, with colons between.
Conditions: at most eight groups of 16 bits; the library's table for trailing zeros holds 4 in its place 15.
-/
import Derived.Test.YtgbkeciimddpnaaGreatDoorAddrR
import Derived.Test.YtgbkeciimddpnaaGreatDoorAddrF
namespace Go.Proofs.YtgbkeciimddpnaaGreatDoor.Print
open Go Go.RowKit Go.Proofs.YtgbkeciimddpnaaGreatDoor.AddrP

def mkB (l : List UInt8) : ByteArray := ⟨l.toArray⟩
theorem mkB_data (l : List UInt8) : (mkB l).data.toList = l := rfl
theorem Tryz.info9 : (Tryz.prog.info? 9).map (fun i => (i.zero, i.size, i.bytes)) = some (some (.string ⟨#[]⟩), 1, 16) := by kernel_rfl
theorem join_len (sep : List UInt8) (xs : List (List UInt8)) (b : Nat) (h : ∀ x ∈ xs, x.length ≤ b) : (Lib.join xs sep).length ≤ xs.length * (b + sep.length) := by
  have aux : ∀ r : List (List UInt8), (∀ x ∈ r, x.length ≤ b) → (Lib.joinTail sep r).length ≤ r.length * (b + sep.length) := by
    intro r
    induction r with
    | nil => simp [Lib.joinTail]
    | cons y r ih =>
      intro hr
      have h1 := ih (fun z hz => hr z (by simp [hz]))
      have h2 := hr y (by simp)
      have e : Lib.joinTail sep (y :: r) = sep ++ y ++ Lib.joinTail sep r := by simp [Lib.joinTail]
      rw [e, List.length_append, List.length_append, List.length_cons, Nat.succ_mul]
      omega
  cases xs with
  | nil => simp [Lib.join_nil]
  | cons x r =>
    rw [Lib.join_cons, List.length_append, List.length_cons, Nat.succ_mul]
    have h1 := aux r (fun z hz => h z (by simp [hz]))
    have h2 := h x (by simp)
    omega
/-- strings.Join over a slice that the call has made. -/
theorem join_own (xs : List ByteArray) (sep : ByteArray) (v : Value) (base : Nat) (w : World) (h : w.ownsRow base 9 1 v xs.length (xs.map Value.string)) (hN : xs.length ≤ 1000000) (hx : ∀ x ∈ xs, x.size ≤ 1000000) (hsep : sep.size ≤ 1000) :
    ∃ A cap, v = .slice A xs.length cap ∧ Calls Tryz.prog 39 #[.slice A xs.length cap, .string sep] w fun e w' => e = .returned (.string (mkB (Lib.join (xs.map (·.data.toList)) sep.data.toList))) ∧ Below w.heap.size w w' := by
  rcases h.2 with ⟨h1, h2⟩ | ⟨g, cap, cur, h1, h2, h3, h4, h5, h6, h7⟩
  · obtain rfl : xs = [] := List.eq_nil_of_length_eq_zero h2
    exact ⟨none, 0, h1, (Tryz.strings_Join_none _ _ _ _).mono fun e w' ⟨a, b⟩ => ⟨a, b ▸ Below.refl _ _⟩⟩
  · refine ⟨_, _, h1, ?_⟩
    refine Tryz.strings_Join g 0 cap xs sep w (fun j x hj => ?_) (h.lt g (by rw [h1]; rfl)).2 (by omega) h4 ?_
    · have := h.cells (g := g) (by rw [h1]; rfl) j (.string x) (by simp [hj])
      rwa [Lib.add_plain] at this
    · refine Nat.le_trans (join_len _ _ 1000000 (fun x hx' => ?_)) ?_
      · obtain ⟨y, hy, rfl⟩ := List.mem_map.mp hx'
        have := hx y hy
        rw [← Lib.size_eq]; exact this
      · rw [List.length_map, ← Lib.size_eq]
        refine Nat.le_trans (Nat.mul_le_mul hN (Nat.add_le_add_left hsep _)) (by decide)

set_option maxRecDepth 100000 in
set_option maxHeartbeats 6400000 in
theorem hexed_calls (A : Option Addr) (cap : Nat) (l : List Nat) (hl : l.length ≤ 8) (hb : ∀ n ∈ l, n ≤ 65535) (w : World) (hz : w.cell? ⟨7, 15, none⟩ = some (.int .u8 4))
    (hc : 0 < l.length → ∃ g o, A = some ⟨g, o, none⟩ ∧ g < w.heap.size ∧ ∀ (j : Nat) (x : Nat), l[j]? = some x → w.cell? ⟨g, o + j, none⟩ = some (.int .u16 (x : Int))) :
    Calls Tryz.prog 41 #[.slice A l.length cap] w fun e w' => e = .returned (.string (mkB (hexs l))) ∧ Below w.heap.size w w' := by
  obtain ⟨i0, hi, hz0, hz1, hz2⟩ := info_parts Tryz.info9
  have HC := Lib.hid hc
  have HB := Lib.hid hb
  have HZ := Lib.hid hz
  have hz5 := lt_of_cell hz
  obtain ⟨f, hf⟩ : ∃ f : Nat → ByteArray, f = fun n => mkB (digs 16 n) := ⟨_, rfl⟩
  have HF := Lib.hid hf
  clear hc hb hz hf
  go_enter Tryz.func41, Tryz.ntmps41
  go_wp2_with fail
  go_loopw [3, 8] (fun v i wr => ∃ k : Nat, k ≤ l.length ∧ i = .int .i64 k ∧ wr.ownsRow w.heap.size 9 1 v ((l.take k).map f).length (((l.take k).map f).map Value.string) ∧ Below w.heap.size w wr) (fun _ i _ => l.length - (intOf i).toNat)
  case atStart => exact ⟨0, by omega, rfl, World.ownsRow_nil _ _ _ _, Below.refl _ _⟩
  case round =>
    obtain ⟨k, hk, rfl, hown, hBel⟩ := hrel
    by_cases hlt : k < l.length
    · obtain ⟨g, o, rfl, hg, hcells⟩ := HC.out (by omega)
      obtain ⟨x, hx⟩ : ∃ x, l[k]? = some x := ⟨_, List.getElem?_eq_getElem hlt⟩
      have hcell : wr.cell? ⟨g, o + k, none⟩ = some (.int .u16 (x : Int)) := (hBel.cell (p := ⟨g, o + k, none⟩) hg).trans (hcells k x hx)
      have hx6 := HB.out x (List.mem_of_getElem? hx)
      have hcv : IntKind.u64.wrap (x : Int) = (x : Int) := IntWalk.u64_in _ (by omega)
      have hfu := formatUint_calls x hx6 wr ((hBel.cell (p := ⟨7, 15, none⟩) hz5).trans HZ.out)
      have hfx : (⟨(digs 16 x).toArray⟩ : ByteArray) = f x := by rw [HF.out]; rfl
      rw [hfx] at hfu
      have htake : l.take (k + 1) = l.take k ++ [x] := by rw [List.take_add_one, hx]; rfl
      have HFU := Lib.hid hfu
      have HO := Lib.hid hown
      have HT := Lib.hid htake
      clear hfu hown htake hcells hx hfx
      go_wp2_with (first
        | (go_at_call 67; refine HFU.out.mono ?_; rintro e w1 ⟨rfl, hb⟩)
        | (at_builtin; refine wpList_append_own _ rfl (.tmp 12) (.tmp 16) 60 rfl w.heap.size 9 i0 (.string ⟨#[]⟩) 1 16 Tryz.underlying60 hi hz0 hz1 hz2 rfl (by decide) _ _ _ rfl ((own_below HO.out hb).alloc _) ⟨w1.heap.size, 0, none⟩ 1 1 [.string (f x)] rfl rfl ?c1 ?c2 ?c3 ?c4 ?c5 ?_))
      case c1 =>
        intro j u hj
        match j, hj with
        | 0, hj => simp at hj; subst hj; simp [Addr.add]
      case c2 => intro u hu; simp at hu; subst hu; rfl
      case c3 => unfold maxLen; simp; omega
      case c4 => simp; omega
      case c5 => have := hb.size; have := hBel.size; simp; omega
      intro v' w2 hown' hgrow _
      have hsz1 := hb.size
      have hsz0 := hBel.size
      have HB2 : Below w.heap.size w w2 := (((hBel.trans (hb.mono hsz0)).alloc (by omega) _).grown hgrow (by simp; omega) (fun j hj => (HO.out.lt j hj).1))
      have HO2 : w2.ownsRow w.heap.size 9 1 v' ((l.take (k + 1)).map f).length (((l.take (k + 1)).map f).map Value.string) := by
        have hmin : min k l.length = k := by omega
        rw [HT.out]
        simpa [hmin] using hown'
      clear hown' hgrow HO hb
      go_wp2_with fail
      go_roundw
      case rel => exact ⟨k + 1, by omega, by go_num, HO2, HB2⟩
      case measure => simp [intOf]; omega
    · obtain rfl : k = l.length := by omega
      rw [List.take_length] at hown
      obtain ⟨A2, cap2, hu3, hj⟩ := join_own (l.map f) ⟨#[58]⟩ u3 w.heap.size wr hown (by simp; omega) (fun x hx => by
        obtain ⟨n, hn, rfl⟩ := List.mem_map.mp hx
        have := digs_len (b := 16) (by omega) 3 n (by have := HB.out n hn; omega)
        rw [HF.out]
        show (digs 16 n).toArray.size ≤ _
        simp; omega) (by decide)
      have e : mkB (Lib.join ((l.map f).map (·.data.toList)) (⟨#[58]⟩ : ByteArray).data.toList) = mkB (hexs l) := by
        rw [HF.out]
        unfold hexs
        congr 2
        simp [mkB, Function.comp_def]
      rw [e, List.length_map] at hj
      rw [List.length_map] at hu3
      subst hu3
      have HJ := Lib.hid hj
      clear hj hown e
      go_wp2_with (go_at_call 39; refine HJ.out.mono ?_; rintro e w1 ⟨rfl, hb⟩)
      go_ret
      exact ⟨rfl, bnext hBel hb⟩
end Go.Proofs.YtgbkeciimddpnaaGreatDoor.Print
