/-
What the row's own list of variables gives the walks: the library's tables and errors hold what they hold.
Conditions: the variables read as the row says; the world has the program's shape.
-/
import Derived.Test.YtgbkeciimddpnaaGreatDoorAddrPr
import Derived.Test.YtgbkeciimddpnaaGreatDoorRows
import Derived.Lib.LaidU8
import Derived.Shelf.Vars
import Derived.HandedShaped
import Derived.MakeChecks
namespace Go.Proofs.YtgbkeciimddpnaaGreatDoor.Print
open Go Go.RowKit Go.Lib

/-- The wrap of a walk, with the world's shape and one thing more that the row asks. -/
theorem returnsInHanded_shaped_and {H : Type} {enc : TypeId × Value → H} {a : Assume} {C : Checked} {os : Os} {f : FuncId} {fn : Func} {s : ChangeSpec} {conds : List PathCond} {apart fresh handsOn again : Bool} {X : World → Array Value → Prop}
    (hX : ∀ (w w' : World) (args : Array Value), w.heap = w'.heap → X w args → X w' args)
    (own : ownKnob C.prog.godebug = none) (started : os.Started) (noInit : C.prog.inits.idxOf? f = none) (hfn : C.prog.funcs[f]? = some fn)
    (witness : ∃ (w : World) (tape : Tape) (i : Input), w.os = os ∧ (w.forCall tape i).Shaped C.prog ∧ i.vars = [] ∧ Input.okWide C.prog (w.forCall tape i) .any w.heap.size f i ∧
      ((s.pre enc C.prog fn conds apart (w.forCall tape i).memory i.args ∧ X (w.forCall tape i).memory i.args) ∧ sizedMet enc C.prog fn (OpenSpec.ofChange s) apart (w.forCall tape i).memory i.args) ∧ a.holds C.prog (lone (Frame.enter C.prog f i.args .normal) [] (w.forCall tape i)))
    (contract : ∀ (W : World) (base : Nat) (args : Array Value) (ds gs : List (DataW H)) (before : List MemPlace),
      (∀ (j : Nat) t v, fn.params[j]? = some t → args[j]? = some v → Value.okWide C.prog W .any base t v) →
      DataW.Whole enc C.prog fn.params.toList s.vars apart W args.toList ds gs before →
      conds.all (PathCond.test C.prog ⟨fn.params.toList, ds, s.plain.varTypes C.prog, gs⟩) = true →
      (DataW.weightsEach C.prog (fn.params.toList ++ s.plain.varTypes C.prog) (ds ++ gs)).all (· ≤ reachBytes) = true →
      W.ShapedOpen C.prog → X W args →
      a.holds C.prog (lone (Frame.enter C.prog f args .normal) [] W) →
      Calls C.prog f args W fun e W' => ∃ v, e = .returned v ∧ s.post enc C.prog fn apart fresh handsOn again W args v W') :
    ReturnsInHanded a C os f .any (fun w args => (s.pre enc C.prog fn conds apart w args ∧ X w args) ∧ sizedMet enc C.prog fn (OpenSpec.ofChange s) apart w args) (s.post enc C.prog fn apart fresh handsOn again) := by
  refine returnsInHanded_of_calls own started noInit witness ?_
  intro w tape i _ hsh _ hok hpre hholds
  obtain ⟨_, _, _, fn', hfn', _, _, _, _, hval⟩ := hok
  have e : fn' = fn := Option.some.inj (hfn'.symm.trans hfn)
  subst e
  obtain ⟨⟨⟨ds, gs, before, hw, hc⟩, hx⟩, hz⟩ := hpre
  have hw' := DataW.Whole.of_heap (w' := w.forCall tape i) (by rfl) hw
  refine (contract (w.forCall tape i) w.heap.size i.args ds gs before hval hw' hc (hz.weights hw) hsh (hX _ _ _ (by rfl) hx) hholds).mono fun e W' ⟨v, he, hp⟩ => ?_
  subst he
  exact ChangeSpec.post_blind hp

theorem iface_cell {W : World} {n : String} {g : Nat} {nm : String} {d : DataW Unit} (h : VarReads Tryz.prog W n (.iface nm d)) (hg : Tryz.prog.globalNamed n = some g) (ht : (Tryz.prog.globals[g]?).map (·.type) = some 55) :
    ∃ ev, W.cell? ⟨g, 0, none⟩ = some ev ∧ (ev = .nilIface ∨ ∃ te pe, ev = .iface te pe) := by
  obtain ⟨g', t', cs, fuel, p, hg', ht', hv, hd⟩ := h
  obtain rfl := Option.some.inj (hg.symm.trans hg')
  obtain rfl := Option.some.inj (ht.symm.trans ht')
  obtain ⟨f', u, v, hcs, _, _⟩ := iface_of_trod Tryz.underlying55 hd
  refine ⟨.iface u v, ?_, .inr ⟨u, v, rfl⟩⟩
  have := World.var?_cell hg hv 0
  rw [this, ← Array.getElem?_toList, hcs]
  rfl
theorem tab_is {W : World} {n : String} {g t e N : Nat} {k : IntKind} {zs : List Int} (h : VarReads Tryz.prog W n (tabData k zs)) (hg : Tryz.prog.globalNamed n = some g) (hty : (Tryz.prog.globals[g]?).map (·.type) = some t)
    (ht : Tryz.prog.underlying t = some (.array N e)) (he : Tryz.prog.underlying e = some (.int k)) (hce : Tryz.prog.cellsOf e = 1) (hct : Tryz.prog.cellsOf t = N) : TabIs Tryz.prog W n k zs := by
  obtain ⟨g', t', cs, fuel, p, hg', ht', hv, hd⟩ := h
  obtain rfl := Option.some.inj (hg.symm.trans hg')
  obtain rfl := Option.some.inj (hty.symm.trans ht')
  unfold TabIs
  rw [hv, ← cells_of_tab ht he hce hct hd]
def deBruijn : List Int := [0, 1, 56, 2, 57, 49, 28, 3, 61, 58, 42, 50, 38, 29, 17, 4, 62, 47, 59, 36, 45, 43, 51, 22, 53, 39, 33, 30, 24, 18, 12, 5, 63, 55, 48, 27, 60, 41, 37, 16, 46, 35, 44, 21, 52, 32, 23, 11, 54, 26, 40, 15, 34, 20, 31, 10, 25, 14, 19, 9, 13, 8, 7, 6]
def laidAddr : List (String × DataW Unit) := Rows.addrRangesRow.laid
theorem vars_of_laid {W : World} (h : laidMet Tryz.prog laidAddr W) (hsh : W.ShapedOpen Tryz.prog) : LibVars W ∧ PrVars W := by
  have m1 : ("strconv.ErrSyntax", (Rows.laid_strconv_ErrSyntax : DataW Unit)) ∈ laidAddr := by unfold laidAddr Rows.addrRangesRow; simp only [List.mem_cons, true_or, or_true]
  have m2 : ("strconv.ErrRange", (Rows.laid_strconv_ErrRange : DataW Unit)) ∈ laidAddr := by unfold laidAddr Rows.addrRangesRow; simp only [List.mem_cons, true_or, or_true]
  have m3 : ("internal/strconv.uint64pow10", (Rows.laid_internal_strconv_uint64pow10 : DataW Unit)) ∈ laidAddr := by unfold laidAddr Rows.addrRangesRow; simp only [List.mem_cons, true_or, or_true]
  have m4 : ("math/bits.deBruijn64tab", (Rows.laid_math_bits_deBruijn64tab : DataW Unit)) ∈ laidAddr := by unfold laidAddr Rows.addrRangesRow; simp only [List.mem_cons, true_or, or_true]
  have hm := cell_of_shapedOpen_int (g := 0) (t := 3) (zero := #[.int .i64 0]) (k := .i64) hsh (of_decide_eq_true (by kernel_rfl)) (by kernel_rfl) rfl (by kernel_rfl) (by kernel_rfl) Tryz.underlying3
  have ht := tab_is (g := 3) (zs := pow10Tab) (Go.Lib.laidMet.reads h m3) (by kernel_rfl) (by kernel_rfl) Tryz.underlying129 Tryz.underlying22 (by kernel_rfl) (by kernel_rfl)
  have hz := tab_is (g := 7) (k := .u8) (zs := deBruijn) (Go.Lib.laidMet.reads h m4) (by kernel_rfl) (by kernel_rfl) Tryz.underlying147 Tryz.underlying5 (by kernel_rfl) (by kernel_rfl)
  exact ⟨⟨⟨iface_cell (Go.Lib.laidMet.reads h m1) (by kernel_rfl) (by kernel_rfl), iface_cell (Go.Lib.laidMet.reads h m2) (by kernel_rfl) (by kernel_rfl)⟩, hm⟩, ⟨ht, hz.cell (g := 7) (by kernel_rfl) 15 (by decide)⟩⟩
end Go.Proofs.YtgbkeciimddpnaaGreatDoor.Print
