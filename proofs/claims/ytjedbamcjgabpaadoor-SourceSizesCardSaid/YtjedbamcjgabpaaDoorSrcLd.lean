/- What the row's listed variables give a walk: the tables of package code; the wrap of a row with listed variables, the world's shape and the sizes of what came in. -/
import Derived.Test.YtjedbamcjgabpaaDoorSrcG
import Derived.Test.YtjedbamcjgabpaaDoorRows
import Derived.ProofKit
import Derived.LaidMore
import Derived.LaidHandle
import Derived.OpenShut
import Derived.ChangeOld
import Derived.HandedShaped
import Derived.MakeChecks
import Derived.Lib.LaidU8
import Derived.Lay
import Derived.SizedLaws
import Derived.Deep.DeepLaidRun
import Derived.Shelf.Vars
set_option linter.unusedVariables false
set_option linter.unusedSimpArgs false
namespace Go.Proofs.YtjedbamcjgabpaaDoor.Laid
open Go Go.ChangeShapes Go.WideShapes Go.ChangeAt Go.RowKit
open Go.Proofs.YtjedbamcjgabpaaDoor.Src

/-- An array of texts as a row lists it. -/
def strData {H : Type} (zs : List (List UInt8)) : DataW H := .agg (zs.map fun z => .lit (.string z))
/-- An array of texts that reads as the table holds them, cell for cell. -/
theorem strs_of_tab {H : Type} {enc : TypeId × Value → H} {P : Program} {w : World} {base : Nat} {sp : Nat → Bool} {held : Bool} {fuel : Nat} {t e : TypeId} {n : Nat} {cs : List Value} {zs : List (List UInt8)} {p : List MemPlace}
 (ht : P.underlying t = some (.array n e)) (he : P.underlying e = some .string) (hce : P.cellsOf e = 1) (hct : P.cellsOf t = n)
 (h : DataW.trod enc P w base sp held fuel t cs = some (strData zs, p)) : cs = zs.map fun z => Value.string ⟨z.toArray⟩ := by
 cases fuel with
 | zero => simp [DataW.trod] at h
 | succ fuel =>
  simp only [DataW.trod, ht, hce, hct, Nat.mul_one] at h
  split at h
  ·rename_i hl
   obtain ⟨xs, hm, hx⟩ := Option.map_eq_some_iff.1 h
   have hxs : xs.map (·.1) = zs.map fun z => (DataW.lit (.string z) : DataW H) := by
    have := congrArg Prod.fst hx
    simpa [strData] using this
   have hxl : xs.length = n := by simpa using Lib.mapM_length hm
   have hzl : zs.length = n := by
    have := congrArg List.length hxs
    simp at this
    omega
   apply List.ext_getElem?
   intro i
   by_cases hi : i < n
   ·obtain ⟨b, hb, hf⟩ := Lib.mapM_at hm i i (by simp [hi])
    obtain ⟨z, hc, rfl, _⟩ := DataW.trod_string he hf
    have h1 : cs[i]? = some (.string z) := by
     have := congrArg (·[0]?) hc
     simpa [List.getElem?_take, List.getElem?_drop] using this
    have h2 : (xs.map (·.1))[i]? = some (DataW.lit (.string z.data.toList) : DataW H) := by simp [hb]
    rw [hxs] at h2
    simp only [List.getElem?_map, Option.map_eq_some_iff, DataW.lit.injEq, Lit.string.injEq] at h2
    obtain ⟨z', hz', rfl⟩ := h2
    simp [h1, hz']
   rw [List.getElem?_eq_none (by omega), List.getElem?_eq_none (by simp; omega)]
  cases h
/-- From a listed variable's reading to what a walk reads at an index of it. -/
theorem str_cell {P : Program} {W : World} {name : String} {zs : List (List UInt8)} {bs : List ByteArray} {g : Nat} {t e : TypeId} {n : Nat}
 (h : Lib.VarReads P W name (strData zs)) (hg : P.globalNamed name = some g) (hty : (P.globals[g]?).map (·.type) = some t) (ht : P.underlying t = some (.array n e)) (he : P.underlying e = some .string) (hce : P.cellsOf e = 1) (hct : P.cellsOf t = n)
 (hb : (zs.map fun z => (⟨z.toArray⟩ : ByteArray)) = bs) (i : Nat) (hi : i < bs.length) : W.cell? ⟨g, i, none⟩ = some (.string (bs.getD i ⟨#[]⟩)) := by
 obtain ⟨g', t', cs, fuel, p, hg', ht', hv, hd⟩ := h
 obtain rfl := Option.some.inj (hg.symm.trans hg')
 obtain rfl := Option.some.inj (hty.symm.trans ht')
 have e := strs_of_tab ht he hce hct hd
 have hc := World.var?_cell hg hv i
 rw [hc, ← Array.getElem?_toList, e]
 subst hb
 simp only [List.length_map] at hi
 simp [hi, List.getD]
theorem int_cell {P : Program} {W : World} {name : String} {k : IntKind} {zs : List Int} {g : Nat} {t e : TypeId} {n : Nat}
 (h : Lib.VarReads P W name (Lib.tabData k zs)) (hg : P.globalNamed name = some g) (hty : (P.globals[g]?).map (·.type) = some t) (ht : P.underlying t = some (.array n e)) (he : P.underlying e = some (.int k)) (hce : P.cellsOf e = 1) (hct : P.cellsOf t = n)
 (i : Nat) (hi : i < zs.length) : W.cell? ⟨g, i, none⟩ = some (.int k (zs.getD i 0)) := by
 obtain ⟨g', t', cs, fuel, p, hg', ht', hv, hd⟩ := h
 obtain rfl := Option.some.inj (hg.symm.trans hg')
 obtain rfl := Option.some.inj (hty.symm.trans ht')
 have e := Lib.cells_of_tab ht he hce hct hd
 have hc := World.var?_cell hg hv i
 rw [hc, ← Array.getElem?_toList, e]
 simp [hi, List.getD]

abbrev lst : List (String × DataW Unit) := Rows.sourceNumbersRow.laid
theorem own : ownKnob Tryd.prog.godebug = none := by kernel_rfl
theorem plain : (lst.all fun x => x.2.handleName?.isNone) = true := by kernel_rfl
theorem c9 : Tryd.prog.cellsOf 9 = 1 := by kernel_rfl
theorem c91 : Tryd.prog.cellsOf 132 = 16 := by kernel_rfl
theorem gok {W : World} (h : laidMetH Tryd.prog lst W) (hs : W.ShapedOpen Tryd.prog) : GOk W := by
 rw [Go.MakeChecks.laidMetH_plain _ _ _ plain] at h
 refine ⟨fun i hi => ?_, fun i hi => ?_, fun i hi => ?_, fun i hi => ?_, fun i hi => ?_, fun i hi => ?_, fun i hi => ?_, cell_of_shapedOpen_int (g := 2) (zero := #[.int .i64 0]) (t := 3) hs (of_decide_eq_true (by kernel_rfl)) (by kernel_rfl) rfl (by kernel_rfl) (by kernel_rfl) Tryd.underlying3⟩
 ·exact int_cell (k := .i64) (zs := lengthsT) (t := 106) (n := 7) (e := 3) (Lib.laidMet.reads h (n := "vesper/code.lengths") (d := Lib.tabData .i64 lengthsT) (by simp [lst, Rows.sourceNumbersRow, Rows.laid_vesper_code_lengths, Lib.tabData, lengthsT])) (by kernel_rfl) (by kernel_rfl) Tryd.underlying106 Tryd.underlying3 (by kernel_rfl) (by kernel_rfl) i hi
 ·exact str_cell (zs := threesT.map fun b => b.data.toList) (t := 132) (n := 16) (e := 9) (Lib.laidMet.reads h (n := "vesper/code.threes") (d := strData (threesT.map fun b => b.data.toList)) (by simp [lst, Rows.sourceNumbersRow, Rows.laid_vesper_code_threes, strData, threesT])) (by kernel_rfl) (by kernel_rfl) Tryd.underlying132 Tryd.underlying9 c9 c91 (by decide +kernel) i hi
 ·exact str_cell (zs := sevensT.map fun b => b.data.toList) (t := 132) (n := 16) (e := 9) (Lib.laidMet.reads h (n := "vesper/code.sevens") (d := strData (sevensT.map fun b => b.data.toList)) (by simp [lst, Rows.sourceNumbersRow, Rows.laid_vesper_code_sevens, strData, sevensT])) (by kernel_rfl) (by kernel_rfl) Tryd.underlying132 Tryd.underlying9 c9 c91 (by decide +kernel) i hi
 ·exact str_cell (zs := twelvesT.map fun b => b.data.toList) (t := 132) (n := 16) (e := 9) (Lib.laidMet.reads h (n := "vesper/code.twelves") (d := strData (twelvesT.map fun b => b.data.toList)) (by simp [lst, Rows.sourceNumbersRow, Rows.laid_vesper_code_twelves, strData, twelvesT])) (by kernel_rfl) (by kernel_rfl) Tryd.underlying132 Tryd.underlying9 c9 c91 (by decide +kernel) i hi
 ·exact str_cell (zs := fifteensT.map fun b => b.data.toList) (t := 132) (n := 16) (e := 9) (Lib.laidMet.reads h (n := "vesper/code.fifteens") (d := strData (fifteensT.map fun b => b.data.toList)) (by simp [lst, Rows.sourceNumbersRow, Rows.laid_vesper_code_fifteens, strData, fifteensT])) (by kernel_rfl) (by kernel_rfl) Tryd.underlying132 Tryd.underlying9 c9 c91 (by decide +kernel) i hi
 ·exact str_cell (zs := rowsT.map fun b => b.data.toList) (t := 132) (n := 16) (e := 9) (Lib.laidMet.reads h (n := "vesper/code.rows") (d := strData (rowsT.map fun b => b.data.toList)) (by simp [lst, Rows.sourceNumbersRow, Rows.laid_vesper_code_rows, strData, rowsT])) (by kernel_rfl) (by kernel_rfl) Tryd.underlying132 Tryd.underlying9 c9 c91 (by decide +kernel) i hi
 ·exact int_cell (k := .i64) (zs := digitsT) (t := 106) (n := 7) (e := 3) (Lib.laidMet.reads h (n := "vesper/code.digits") (d := Lib.tabData .i64 digitsT) (by simp [lst, Rows.sourceNumbersRow, Rows.laid_vesper_code_digits, Lib.tabData, digitsT])) (by kernel_rfl) (by kernel_rfl) Tryd.underlying106 Tryd.underlying3 (by kernel_rfl) (by kernel_rfl) i hi

/-- A heap that holds the listed variables: closed facts. -/
noncomputable abbrev door (os : Os) : World := World.laidAll Tryd.prog os lst
theorem door_met (os : Os) (args : Array Value) : laidMetH Tryd.prog lst ((door os).forCall (fun _ _ => 0) ⟨#[], args, []⟩).memory := by
 rw [Go.MakeChecks.laidMetH_plain _ _ _ plain]
 exact laidMet_laidAll _ (by kernel_rfl) (by kernel_rfl)
theorem door_shaped (os : Os) (args : Array Value) : ((door os).forCall (fun _ _ => 0) ⟨#[], args, []⟩).Shaped Tryd.prog :=
 World.shaped_of_ZipB (by kernel_rfl) (by kernel_rfl)
/-- The plain wrap with all three: a condition on the heap, the world's shape, and the sizes. -/
theorem handed_all {H : Type} {enc : TypeId × Value → H} {a : Assume} {C : Checked} {os : Os} {f : FuncId} {fn : Func} {s : ChangeSpec} {conds : List PathCond} {apart fresh handsOn again : Bool} {X : World → Array Value → Prop}
 (hX : ∀ (w w' : World) (args : Array Value), w.heap = w'.heap → X w args → X w' args)
 (own : ownKnob C.prog.godebug = none) (started : os.Started) (noInit : C.prog.inits.idxOf? f = none) (hfn : C.prog.funcs[f]? = some fn)
 (witness : ∃ (w : World) (tape : Tape) (i : Input), w.os = os ∧ (w.forCall tape i).Shaped C.prog ∧ i.vars = [] ∧ Input.okWide C.prog (w.forCall tape i) .any w.heap.size f i ∧
  ((s.pre enc C.prog fn conds apart (w.forCall tape i).memory i.args ∧ X (w.forCall tape i).memory i.args) ∧ sizedMet enc C.prog fn (OpenSpec.ofChange s) apart (w.forCall tape i).memory i.args) ∧ a.holds C.prog (lone (Frame.enter C.prog f i.args .normal) [] (w.forCall tape i)))
 (contract : ∀ (W : World) (base : Nat) (args : Array Value) (ds gs : List (DataW H)) (before : List MemPlace),
  (∀ (j : Nat) t v, fn.params[j]? = some t → args[j]? = some v → Value.okWide C.prog W .any base t v) →
  DataW.Whole enc C.prog fn.params.toList s.vars apart W args.toList ds gs before → X W args → W.ShapedOpen C.prog → (DataW.weightsEach C.prog (fn.params.toList ++ s.plain.varTypes C.prog) (ds ++ gs)).all (· ≤ reachBytes) = true →
  Calls C.prog f args W fun e W' => ∃ v, e = .returned v ∧ s.post enc C.prog fn apart fresh handsOn again W args v W') :
 ReturnsInHanded a C os f .any (fun w args => (s.pre enc C.prog fn conds apart w args ∧ X w args) ∧ sizedMet enc C.prog fn (OpenSpec.ofChange s) apart w args) (s.post enc C.prog fn apart fresh handsOn again) := by
 refine returnsInHanded_of_calls own started noInit witness fun w tape i _ hsh _ hok hpre _ => ?_
 obtain ⟨_, _, _, fn', hfn', _, _, _, _, hval⟩ := hok
 obtain rfl : fn' = fn := Option.some.inj (hfn'.symm.trans hfn)
 obtain ⟨⟨⟨ds, gs, before, hw, hc⟩, hx⟩, hz⟩ := hpre
 refine (contract (w.forCall tape i) w.heap.size i.args ds gs before hval (DataW.Whole.of_heap (w' := w.forCall tape i) (by rfl) hw) (hX _ _ _ (by rfl) hx) hsh (hz.weights hw)).mono fun e W' ⟨v, he, hp⟩ => ?_
 subst he
 exact ChangeSpec.post_blind hp

end Go.Proofs.YtjedbamcjgabpaaDoor.Laid
