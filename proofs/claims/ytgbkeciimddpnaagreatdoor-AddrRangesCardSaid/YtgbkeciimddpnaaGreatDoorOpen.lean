/-
Whatever can be read as data at a type is a value of the printed kind that belongs to the type's shape, with every number, text and row inside it within its bounds.
Conditions: none; one lemma for each shape of type, put together for each type of the seat.
-/
import Derived.ProofKit
import Derived.Deep.Slices
import Derived.SizedLaws
import Derived.ShutString
import Derived.Test.YtgbkeciimddpnaaGreatDoorWords
set_option linter.unusedVariables false
set_option linter.unusedSimpArgs false
namespace Go.Proofs.YtgbkeciimddpnaaGreatDoor.Open
open Go.RowKit Go.ChangeShapes Go.WideShapes Go.Proofs.YtgbkeciimddpnaaGreatDoorW.PrintWords

/-- Whatever reads at type T, no part of it past the reach, is a value of kind k that fits. -/
structure Opens {α : Type} (P : Program) (T : TypeId) (k : Kd α) (wf : α → Prop) : Prop where
  cells : P.cellsOf T = k.sz
  reads : ∀ {H : Type} (enc : TypeId × Value → H) (w : World) (base : Nat) (spare : Nat → Bool) (held : Bool) (fuel : Nat) (cs : List Value) (d : DataW H) (ps : List MemPlace),
    DataW.trod enc P w base spare held fuel T cs = some (d, ps) → (∀ n ∈ d.weights P T, n ≤ reachBytes) → ∃ x, k.K w x cs ∧ wf x

theorem Opens.weaken {α : Type} {P : Program} {T : TypeId} {k : Kd α} {wf wf' : α → Prop} (h : Opens P T k wf) (hw : ∀ x, wf x → wf' x) : Opens P T k wf' :=
  ⟨h.cells, fun enc w base spare held fuel cs d ps hf hz => by
    obtain ⟨x, hx, hy⟩ := h.reads enc w base spare held fuel cs d ps hf hz
    exact ⟨x, hx, hw x hy⟩⟩

theorem opens_int {P : Program} {T : TypeId} {ik : IntKind} (hu : P.underlying T = some (.int ik)) (hc : P.cellsOf T = 1) : Opens P T (Kd.int ik) (fun n => (Lit.int ik n).wf = true) :=
  ⟨hc, fun enc w base spare held fuel cs d ps hf _ => by
    obtain ⟨n, rfl, _, hw⟩ := DataW.trod_int hu hf
    exact ⟨n, rfl, hw⟩⟩

theorem opens_bool {P : Program} {T : TypeId} (hu : P.underlying T = some .bool) (hc : P.cellsOf T = 1) : Opens P T Kd.bool (fun _ => True) :=
  ⟨hc, fun enc w base spare held fuel cs d ps hf _ => by
    obtain ⟨b, rfl, _⟩ := DataW.trod_bool hu hf
    exact ⟨b, rfl, trivial⟩⟩

theorem opens_string {P : Program} {T : TypeId} (hu : P.underlying T = some .string) (hc : P.cellsOf T = 1) : Opens P T Kd.string (fun s => s.size ≤ 140737488351232) :=
  ⟨hc, fun enc w base spare held fuel cs d ps hf hz => by
    obtain ⟨s, rfl, hx, _⟩ := DataW.trod_string hu hf
    obtain ⟨rfl, rfl⟩ := Prod.mk.inj hx
    refine ⟨s, rfl, ?_⟩
    have := hz s.data.toList.length (by simp [DataW.weights])
    rw [Array.length_toList] at this
    exact this⟩

theorem weightsAll_mem {H : Type} {P : Program} {e : TypeId} : ∀ {l : List (DataW H)} {i : Nat} {d : DataW H}, l[i]? = some d → ∀ n ∈ d.weights P e, n ∈ DataW.weightsAll P e l
  | [], _, _, h, _, _ => by simp at h
  | d0 :: l, 0, d, h, n, hn => by
    simp only [List.getElem?_cons_zero, Option.some.injEq] at h
    subst h
    simp only [DataW.weightsAll, List.mem_append]
    exact Or.inl hn
  | d0 :: l, i + 1, d, h, n, hn => by
    simp only [List.getElem?_cons_succ] at h
    simp only [DataW.weightsAll, List.mem_append]
    exact Or.inr (weightsAll_mem h n hn)

theorem cells?_get {w : World} {base : Nat} {a : Addr} {n : Nat} {cs : List Value} (h : w.cells? base a n = some cs) : cs.length = n ∧ ∀ i u, cs[i]? = some u → w.cell? (a.add i) = some u := by
  unfold World.cells? at h
  split at h
  · have hl := mapM_some_length h
    rw [List.length_range] at hl
    refine ⟨hl, fun i u hu => ?_⟩
    have hi : i < n := by
      rcases Nat.lt_or_ge i n with h' | h'
      · exact h'
      · rw [List.getElem?_eq_none (by omega)] at hu; cases hu
    have := mapM_some_get h i i (by simp [hi])
    rw [this]
    exact hu
  · cases h

theorem add_add_ (a : Addr) (m i : Nat) : (a.add m).add i = a.add (m + i) := by
  by_cases hm : m = 0
  · subst hm
    simp [Addr.add]
  · by_cases hi : i = 0
    · subst hi
      simp [Addr.add]
    · simp only [Addr.add, if_neg hm, if_neg hi, if_neg (show ¬ m + i = 0 by omega), Nat.add_assoc]

/-- A choice for each number below n, as a list. -/
theorem list_of {α : Type} {p : Nat → α → Prop} (n : Nat) (h : ∀ i, i < n → ∃ x, p i x) : ∃ xs : List α, xs.length = n ∧ ∀ i x, xs[i]? = some x → p i x := by
  induction n with
  | zero => exact ⟨[], rfl, fun i x hx => by simp at hx⟩
  | succ n ih =>
    obtain ⟨xs, hl, hp⟩ := ih (fun i hi => h i (by omega))
    obtain ⟨x, hx⟩ := h n (by omega)
    refine ⟨xs ++ [x], by simp [hl], fun i y hy => ?_⟩
    rcases Nat.lt_or_ge i n with hi | hi
    · rw [List.getElem?_append_left (by omega)] at hy
      exact hp i y hy
    · rw [List.getElem?_append_right (by omega), hl] at hy
      rcases Nat.eq_zero_or_pos (i - n) with h0 | h0
      · rw [h0] at hy
        simp only [List.getElem?_cons_zero, Option.some.injEq] at hy
        subst hy
        rw [show i = n from by omega]
        exact hx
      · rw [List.getElem?_eq_none (by simp; omega)] at hy
        cases hy

theorem opens_slice {α : Type} {P : Program} {T E : TypeId} {k : Kd α} {wf : α → Prop} {B : Nat} (he : Opens P E k wf) (hu : P.underlying T = some (.slice E)) (hc : P.cellsOf T = 1) (hB : P.bytesOf E = B) :
    Opens P T (Kd.slice E k) (fun xs => xs.length * B ≤ 140737488351232 ∧ ∀ x ∈ xs, wf x) :=
  ⟨hc, fun enc w base spare held fuel cs d ps hf hz => by
    rcases Go.Deep.open_slice hu hf with ⟨rfl, hx⟩ | ⟨a, len, cap, m, n, D, Pl, rfl, hb, hl, hm, hmm, hx, hel⟩
    · refine ⟨[], ⟨none, 0, rfl, Nat.le_refl _, rfl, by simp, fun h => absurd h (by simp)⟩, by simp, by simp⟩
    · have hlm : len ≤ m := by rw [hmm]; split <;> omega
      obtain ⟨hd, _⟩ := Prod.mk.inj hx
      subst hd
      have hz1 : (len + (m - len)) * P.bytesOf E ≤ reachBytes := by
        apply hz
        simp [DataW.weights, hu]
      obtain ⟨xs, hxl, hxp⟩ := list_of (p := fun i x => ∃ c, w.cells? base (a.add (i * P.cellsOf E)) (P.cellsOf E) = some c ∧ k.K w x c ∧ wf x) len (fun i hi => by
        obtain ⟨c, hc1, hc2⟩ := hel i (by omega)
        obtain ⟨x, hx1, hx2⟩ := he.reads enc w base spare held n c (D i) (Pl i) hc2 (fun q hq => by
          apply hz
          simp only [DataW.weights, hu, List.mem_cons, List.mem_append]
          exact Or.inr (Or.inl (weightsAll_mem (i := i) (by simp [hi]) q hq)))
        exact ⟨x, c, hc1, hx1, hx2⟩)
      refine ⟨xs, ⟨some a, cap, by rw [hxl], by omega, rfl, by rw [hxl]; unfold maxLen at hm; omega, fun _ => ⟨a, rfl, fun j p hj => ?_⟩⟩, ?_, fun x hx => ?_⟩
      · obtain ⟨c, hc1, hc2, _⟩ := hxp j p hj
        obtain ⟨hl1, hg1⟩ := cells?_get hc1
        refine ⟨c, by rw [hl1, he.cells], hc2, fun i u hu' => ?_⟩
        have := hg1 i u hu'
        rw [he.cells] at this
        rw [← this, add_add_]
      · rw [hxl, ← hB]
        refine Nat.le_trans (Nat.mul_le_mul_right _ ?_) hz1
        omega
      · obtain ⟨i, hi⟩ := List.getElem?_of_mem hx
        exact (hxp i x hi).elim fun c hc => hc.2.2⟩

/-- The fields from one place on, in line. -/
structure OpensF {α : Type} (P : Program) (fs : List Field) (off : Nat) (k : Kd α) (wf : α → Prop) : Prop where
  reads : ∀ {H : Type} (enc : TypeId × Value → H) (w : World) (base : Nat) (spare : Nat → Bool) (held : Bool) (fuel : Nat) (cs : List Value),
    cs.length = off + k.sz → (∀ f ∈ fs, ∃ y, DataW.trod enc P w base spare held fuel f.type ((cs.drop f.offset).take (P.cellsOf f.type)) = some y ∧ ∀ n ∈ y.1.weights P f.type, n ≤ reachBytes) → ∃ x, k.K w x (cs.drop off) ∧ wf x

theorem opensF_one {α : Type} {P : Program} {f : Field} {off : Nat} {k : Kd α} {wf : α → Prop} (h : Opens P f.type k wf) (ho : f.offset = off) : OpensF P [f] off k wf := by
  refine ⟨fun {H} enc w base spare held fuel cs hl hf => ?_⟩
  obtain ⟨⟨d, ps⟩, hy, hz⟩ := hf f (by simp)
  rw [ho, h.cells, List.take_of_length_le (by rw [List.length_drop]; omega)] at hy
  exact h.reads enc w base spare held fuel _ d ps hy hz

theorem opensF_cons {α β : Type} {P : Program} {f : Field} {fs : List Field} {off off' : Nat} {k : Kd α} {k' : Kd β} {wf : α → Prop} {wf' : β → Prop} (h : Opens P f.type k wf) (ho : f.offset = off) (hoff : off' = off + k.sz) (hr : OpensF P fs off' k' wf') :
    OpensF P (f :: fs) off (Kd.pair k k') (fun x => wf x.1 ∧ wf' x.2) := by
  refine ⟨fun {H} enc w base spare held fuel cs hl hf => ?_⟩
  have hl : cs.length = off + (k.sz + k'.sz) := hl
  obtain ⟨⟨d, ps⟩, hy, hz⟩ := hf f (by simp)
  rw [ho, h.cells] at hy
  obtain ⟨x, hx, hxw⟩ := h.reads enc w base spare held fuel _ d ps hy hz
  obtain ⟨y, hy', hyw⟩ := hr.reads enc w base spare held fuel cs (by omega) (fun g hg => hf g (by simp [hg]))
  subst hoff
  refine ⟨(x, y), ⟨_, _, ?_, hx, hy'⟩, hxw, hyw⟩
  rw [← List.drop_drop, List.take_append_drop]

theorem opens_struct {α : Type} {P : Program} {T : TypeId} {fs : Array Field} {k : Kd α} {wf : α → Prop} (hu : P.underlying T = some (.struct fs)) (hc : P.cellsOf T = k.sz) (h : OpensF P fs.toList 0 k wf) : Opens P T k wf :=
  ⟨hc, fun enc w base spare held fuel cs d ps hf hz => by
    obtain ⟨xs, n, rfl, hx, hlen, hxs, hp⟩ := DataW.trod_struct hu hf
    obtain ⟨hd, _⟩ := Prod.mk.inj hx
    subst hd
    have := h.reads enc w base spare held n cs (by omega) (fun f hf' => by
      obtain ⟨i, hi⟩ := List.getElem?_of_mem hf'
      rw [Array.getElem?_toList] at hi
      have hi2 := hp i f hi
      have hil : i < xs.length := by
        rw [hxs]
        rcases Nat.lt_or_ge i fs.size with h' | h'
        · exact h'
        · rw [Array.getElem?_eq_none h'] at hi; cases hi
      rw [List.getElem?_eq_getElem hil] at hi2
      refine ⟨_, hi2, fun m hm => hz m ?_⟩
      simp only [DataW.weights, hu]
      exact DataW.weights_mem_each (j := i) (t := f.type) (d := (xs[i]).1) (by simp [hi]) (by simp [hil]) m hm)
    rwa [List.drop_zero] at this⟩

/-- A Lean structure by its fields. -/
theorem opens_iso {α β : Type} {P : Program} {T : TypeId} {k : Kd α} {wf : α → Prop} {f : β → α} (g : α → β) (hg : ∀ x, f (g x) = x) (h : Opens P T k wf) : Opens P T (Kd.iso k f) (fun y => wf (f y)) :=
  ⟨h.cells, fun enc w base spare held fuel cs d ps hf hz => by
    obtain ⟨x, hx, hy⟩ := h.reads enc w base spare held fuel cs d ps hf hz
    refine ⟨g x, ?_, by rw [hg]; exact hy⟩
    show k.K w (f (g x)) cs
    rw [hg]
    exact hx⟩

/-- An argument that is a struct: its cells in line. -/
theorem arg_struct {α : Type} {H : Type} {enc : TypeId × Value → H} {P : Program} {w : World} {base b0 : Nat} {spare : Nat → Bool} {held : Bool} {r : Reach} {T : TypeId} {k : Kd α} {wf : α → Prop} {fs : Array Field} {v : Value} {d : DataW H} {ps : List MemPlace}
    {ts : List TypeId} {ds : List (DataW H)} {j : Nat} (ho : Opens P T k wf) (hu : P.underlying T = some (.struct fs)) (hval : Value.okWide P w r b0 T v) (h : DataW.Trod enc P w base spare held T v d ps)
    (hsz : (DataW.weightsEach P ts ds).all (· ≤ reachBytes) = true) (ht : ts[j]? = some T) (hd : ds[j]? = some d) : ∃ x cs, v = .agg ⟨cs⟩ ∧ k.K w x cs ∧ wf x := by
  obtain ⟨cs, rfl, _⟩ := okWide_struct hu hval
  obtain ⟨fuel, hf⟩ := h
  obtain ⟨x, hx, hw⟩ := ho.reads enc w base spare held fuel _ d ps hf (fun n hn => by
    have := List.all_eq_true.1 hsz _ (DataW.weights_mem_each ht hd n hn)
    simpa using this)
  exact ⟨x, cs.toList, rfl, hx, hw⟩

/-- An argument that is a slice. -/
theorem arg_slice {α : Type} {H : Type} {enc : TypeId × Value → H} {P : Program} {w : World} {base b0 : Nat} {spare : Nat → Bool} {held : Bool} {r : Reach} {T E : TypeId} {k : Kd α} {wf : List α → Prop} {v : Value} {d : DataW H} {ps : List MemPlace}
    {ts : List TypeId} {ds : List (DataW H)} {j : Nat} (ho : Opens P T (Kd.slice E k) wf) (hu : P.underlying T = some (.slice E)) (hval : Value.okWide P w r b0 T v) (h : DataW.Trod enc P w base spare held T v d ps)
    (hsz : (DataW.weightsEach P ts ds).all (· ≤ reachBytes) = true) (ht : ts[j]? = some T) (hd : ds[j]? = some d) : ∃ (xs : List α) (A : Option Addr) (c : Nat), v = .slice A xs.length c ∧ xs.length ≤ c ∧ Kd.C k w A xs.length xs ∧ wf xs := by
  obtain ⟨A, len, cap, rfl⟩ := okWide_slice hu hval
  obtain ⟨fuel, hf⟩ := h
  obtain ⟨x, ⟨A', c', he, hl, hr⟩, hw⟩ := ho.reads enc w base spare held fuel _ d ps hf (fun n hn => by
    have := List.all_eq_true.1 hsz _ (DataW.weights_mem_each ht hd n hn)
    simpa using this)
  simp only [Value.cells, List.cons.injEq, Value.slice.injEq, and_true] at he
  obtain ⟨rfl, rfl, rfl⟩ := he
  exact ⟨x, A, cap, rfl, hl, hr, hw⟩

/-- An argument that is a string. -/
theorem arg_string {H : Type} {enc : TypeId × Value → H} {P : Program} {w : World} {base b0 : Nat} {spare : Nat → Bool} {held : Bool} {r : Reach} {T : TypeId} {v : Value} {d : DataW H} {ps : List MemPlace}
    {ts : List TypeId} {ds : List (DataW H)} {j : Nat} (hu : P.underlying T = some .string) (hval : Value.okWide P w r b0 T v) (h : DataW.Trod enc P w base spare held T v d ps)
    (hsz : (DataW.weightsEach P ts ds).all (· ≤ reachBytes) = true) (ht : ts[j]? = some T) (hd : ds[j]? = some d) : ∃ s : ByteArray, v = .string s ∧ s.size ≤ 140737488351232 := by
  obtain ⟨s, rfl⟩ := okWide_string hu hval
  obtain ⟨fuel, hf⟩ := h
  obtain ⟨s', h, hx, hs⟩ := DataW.trod_string hu hf
  simp only [Value.cells, List.cons.injEq, Value.string.injEq, and_true] at h
  subst h
  obtain ⟨rfl, _⟩ := Prod.mk.inj hx
  refine ⟨s, rfl, ?_⟩
  have := List.all_eq_true.1 hsz _ (DataW.weights_mem_each ht hd s.data.toList.length (by simp [DataW.weights]))
  rw [Array.length_toList] at this
  exact of_decide_eq_true this

end Go.Proofs.YtgbkeciimddpnaaGreatDoor.Open
