/- Texts of the Script seat, one behind another: ScrG, ScrLaid, ScrSized, ScrHex, ScrFlags, ScrLine, ScrBld, ScrPrint, ScrOpen. -/
import Derived.Test.YtdjffafcmomalaaDoorShelf
import Derived.Test.YtdjffafcmomalaaDoorPScrx0
import Derived.Lib.LaidTab
import Derived.Lib.AppendIntMem
import Derived.Test.YtdjffafcmomalaaDoorRows
import Derived.ProofKit
import Derived.LaidMore
import Derived.LaidHandle
import Derived.OpenShut
import Derived.ChangeOld
import Derived.HandedShaped
import Derived.MakeChecks
import Derived.Stop.Joined
import Derived.Stop.LaidErr
import Derived.Lib.LaidU8
import Derived.Deep.DeepLaidRun
import Derived.Shelf.Vars
import Derived.Lay
import Derived.SizedLaws
import Derived.Laws.MakeOwn
import Derived.Laws.BitsLemmas
import Derived.StillTailTactics
import Derived.Lib.ItoaLen
import Derived.Deep.AppendLies
import Derived.WalkKit
import Derived.Lib.Builder
import Derived.Test.YtdjffafcmomalaaDoorPScrx2
import Derived.Deep.SlicePairs
import Derived.Lib.SmallJoins
/- What a walk of this seat knows of the library's own variables; strconv.Itoa in the printed form. -/
set_option linter.unusedVariables false
set_option linter.unusedSimpArgs false
namespace Go.Proofs.YtdjffafcmomalaaDoor.Scr
open Go Go.RowKit
open Go.Proofs.YtdjffafcmomalaaDoorW.PrintWords Go.Proofs.YtdjffafcmomalaaDoor.PScr

/-- What is known of the library's variables: MaxLen holds some int, the table of powers of ten is what the text lays, the two errors hold some pointer each. -/
structure GOk (w : World) : Prop where
  max : ∃ m, w.cell? ⟨0, 0, none⟩ = some (.int .i64 m)
  pow : Lib.TabIs Tryd.prog w "internal/strconv.uint64pow10" .u64 Lib.pow10Tab
  syn : ∃ tp p, w.var? Tryd.prog "strconv.ErrSyntax" = some #[.iface tp p]
  rng : ∃ tp p, w.var? Tryd.prog "strconv.ErrRange" = some #[.iface tp p]

theorem var_kept {w w1 : World} {name : String} {cs : Array Value} (h : w.var? Tryd.prog name = some cs) (hb : ∀ k, k < w.heap.size → w1.heap[k]? = w.heap[k]?) : w1.var? Tryd.prog name = some cs := by
  unfold World.var? at h ⊢
  obtain ⟨g, hg, hv⟩ := Option.bind_eq_some_iff.1 h
  rw [hg]
  simp only [Option.bind_some]
  have hlt : g < w.heap.size := by
    rcases Nat.lt_or_ge g w.heap.size with h' | h'
    · exact h'
    · rw [Array.getElem?_eq_none h'] at hv; cases hv
  rw [hb g hlt]
  exact hv

theorem GOk.kept {w w1 : World} (h : GOk w) (hb : ∀ k, k < w.heap.size → w1.heap[k]? = w.heap[k]?) : GOk w1 := by
  obtain ⟨⟨m, hm⟩, hp, ⟨t1, p1, h1⟩, ⟨t2, p2, h2⟩⟩ := h
  refine ⟨⟨m, ?_⟩, var_kept hp hb, ⟨t1, p1, var_kept h1 hb⟩, ⟨t2, p2, var_kept h2 hb⟩⟩
  rw [World.cell?_of_block (hb 0 (World.block_lt_of_cell? w _ hm))]
  exact hm
theorem GOk.below {w0 w1 : World} (h : GOk w0) (hb : Below w0.heap.size w0 w1) : GOk w1 := h.kept (fun k hk => hb.block k hk)

end Go.Proofs.YtdjffafcmomalaaDoor.Scr
namespace Go.Proofs.YtdjffafcmomalaaDoor.PScr
open Go Go.RowKit
open Go.Proofs.YtdjffafcmomalaaDoorW.PrintWords
open Go.Proofs.YtdjffafcmomalaaDoor.Scr (GOk)

def strconv_Itoa_52.f (a0 : Int) : Option ByteArray := if -9223372036854775808 ≤ a0 then (if a0 ≤ 9223372036854775807 then some ⟨(Lib.itoa a0).toArray⟩ else none) else none
theorem strconv_Itoa_52.calls (a0 : Int) (r : ByteArray) (w : World) (h : strconv_Itoa_52.f a0 = some r)
    (hG : GOk w := by first | exact HG.out | exact GOk.below HG.out HB.out | exact GOk.below HG.out (by repeat (first | (with_reducible first | exact HB.out | apply below_alloc | apply pw_below_drewN | apply below_drew1) | exact HB.out))) :
    Calls Tryd.prog 52 #[.int .i64 a0] w fun e w' => e = .returned (.string r) ∧ Below w.heap.size w w' := by
  unfold strconv_Itoa_52.f at h
  by_cases h0 : -9223372036854775808 ≤ a0
  · rw [if_pos h0] at h
    by_cases h1 : a0 ≤ 9223372036854775807
    · rw [if_pos h1] at h
      obtain rfl := Option.some.inj h
      refine (Tryd.strconv_Itoa a0 h0 h1 w hG.pow).mono ?_
      rintro e w' ⟨he, k, os, rfl⟩
      exact ⟨he, Lib.below_grow w.heap.size w (Nat.le_refl _) k os⟩
    · rw [if_neg h1] at h; cases h
  · rw [if_neg h0] at h; cases h
end Go.Proofs.YtdjffafcmomalaaDoor.PScr
/- What the row's listed variables and the world's shape give a walk: MaxLen holds some int, the powers of ten, the two errors of strconv. -/
set_option linter.unusedVariables false
set_option linter.unusedSimpArgs false
namespace Go.Proofs.YtdjffafcmomalaaDoor.Laid
open Go Go.ChangeShapes Go.WideShapes Go.ChangeAt Go.RowKit
open Go.Proofs.YtdjffafcmomalaaDoor.Scr (GOk)

/-- The plain wrap with both: a condition on the heap, and the world's shape. -/
theorem handed_both {H : Type} {enc : TypeId × Value → H} {a : Assume} {C : Checked} {os : Os} {f : FuncId} {fn : Func} {s : ChangeSpec} {conds : List PathCond} {apart fresh handsOn again : Bool} {X : World → Array Value → Prop}
    (hX : ∀ (w w' : World) (args : Array Value), w.heap = w'.heap → X w args → X w' args)
    (own : ownKnob C.prog.godebug = none) (started : os.Started) (noInit : C.prog.inits.idxOf? f = none) (hfn : C.prog.funcs[f]? = some fn)
    (witness : ∃ (w : World) (tape : Tape) (i : Input), w.os = os ∧ (w.forCall tape i).Shaped C.prog ∧ i.vars = [] ∧ Input.okWide C.prog (w.forCall tape i) .any w.heap.size f i ∧
      ((s.pre enc C.prog fn conds apart (w.forCall tape i).memory i.args ∧ X (w.forCall tape i).memory i.args) ∧ sizedMet enc C.prog fn (OpenSpec.ofChange s) apart (w.forCall tape i).memory i.args) ∧ a.holds C.prog (lone (Frame.enter C.prog f i.args .normal) [] (w.forCall tape i)))
    (contract : ∀ (W : World) (base : Nat) (args : Array Value) (ds gs : List (DataW H)) (before : List MemPlace),
      (∀ (j : Nat) t v, fn.params[j]? = some t → args[j]? = some v → Value.okWide C.prog W .any base t v) →
      DataW.Whole enc C.prog fn.params.toList s.vars apart W args.toList ds gs before → X W args → W.ShapedOpen C.prog →
      Calls C.prog f args W fun e W' => ∃ v, e = .returned v ∧ s.post enc C.prog fn apart fresh handsOn again W args v W') :
    ReturnsInHanded a C os f .any (fun w args => (s.pre enc C.prog fn conds apart w args ∧ X w args) ∧ sizedMet enc C.prog fn (OpenSpec.ofChange s) apart w args) (s.post enc C.prog fn apart fresh handsOn again) := by
  refine returnsInHanded_of_calls own started noInit witness fun w tape i _ hsh _ hok hpre _ => ?_
  obtain ⟨_, _, _, fn', hfn', _, _, _, _, hval⟩ := hok
  obtain rfl : fn' = fn := Option.some.inj (hfn'.symm.trans hfn)
  obtain ⟨⟨⟨ds, gs, before, hw, hc⟩, hx⟩, hz⟩ := hpre
  refine (contract (w.forCall tape i) w.heap.size i.args ds gs before hval (DataW.Whole.of_heap (w' := w.forCall tape i) (by rfl) hw) (hX _ _ _ (by rfl) hx) hsh).mono fun e W' ⟨v, he, hp⟩ => ?_
  subst he
  exact ChangeSpec.post_blind hp

abbrev lst : List (String × DataW Unit) := Rows.scriptNamesRow.laid
theorem lst_eq : lst = [("math/bits.deBruijn32tab", Rows.laid_math_bits_deBruijn32tab), ("math/bits.deBruijn64tab", Rows.laid_math_bits_deBruijn64tab), ("internal/strconv.uint64pow10", Rows.laid_internal_strconv_uint64pow10), ("unicode/utf8.acceptRanges", Rows.laid_unicode_utf8_acceptRanges), ("strconv.ErrRange", Rows.laid_strconv_ErrRange), ("strconv.ErrSyntax", Rows.laid_strconv_ErrSyntax), ("unicode/utf8.first", Rows.laid_unicode_utf8_first)] := rfl
theorem own : ownKnob Tryd.prog.godebug = none := by kernel_rfl
theorem plain : (lst.all fun x => x.2.handleName?.isNone) = true := by kernel_rfl
theorem row135 (u : TypeId) (h : Tryd.prog.typeName? 3 u = some "*errors.errorString") : u = 135 :=
  typeName_ptr_named (nm := "errors.errorString") (by rw [show "*" ++ "errors.errorString" = "*errors.errorString" by decide]; kernel_rfl) (by kernel_rfl) (by decide) u (by rw [show "*" ++ "errors.errorString" = "*errors.errorString" by decide]; exact h)
theorem gok {W : World} (h : laidMetH Tryd.prog lst W) (hs : W.ShapedOpen Tryd.prog) : GOk W := by
  rw [Go.MakeChecks.laidMetH_plain _ _ _ plain, lst_eq] at h
  have h2 := h.tail.tail
  have h4 := h2.tail.tail
  have h5 := h4.tail
  refine ⟨cell_of_shapedOpen_int (g := 0) (zero := #[.int .i64 0]) (t := 3) hs (of_decide_eq_true (by kernel_rfl)) (by kernel_rfl) rfl (by kernel_rfl) (by kernel_rfl) Tryd.underlying3, ?_, ?_, ?_⟩
  · exact Lib.tabIs_of_head (g := 3) (t := 130) (n := 20) (e := 113) (by kernel_rfl) (by kernel_rfl) Tryd.underlying130 Tryd.underlying113 (by kernel_rfl) (by kernel_rfl) h2
  · obtain ⟨a0, s0, hv, -, -, -⟩ := laid_sentinel (g := 1) (ti := 61) (tp := 135) (te := 137) (ts := 9) h5 (by kernel_rfl) (by kernel_rfl) Tryd.underlying61 row135 Tryd.underlying135 Tryd.underlying137 rfl rfl Tryd.underlying9 (by kernel_rfl) (by kernel_rfl)
    exact ⟨_, _, hv⟩
  · obtain ⟨a0, s0, hv, -, -, -⟩ := laid_sentinel (g := 2) (ti := 61) (tp := 135) (te := 137) (ts := 9) h4 (by kernel_rfl) (by kernel_rfl) Tryd.underlying61 row135 Tryd.underlying135 Tryd.underlying137 rfl rfl Tryd.underlying9 (by kernel_rfl) (by kernel_rfl)
    exact ⟨_, _, hv⟩

/-- A heap that holds the listed variables: closed facts. -/
noncomputable abbrev door (os : Os) : World := World.laidAll Tryd.prog os lst
theorem door_met (os : Os) (args : Array Value) : laidMetH Tryd.prog lst ((door os).forCall (fun _ _ => 0) ⟨#[], args, []⟩).memory := by
  rw [Go.MakeChecks.laidMetH_plain _ _ _ plain]
  exact laidMet_laidAll _ (by kernel_rfl) (by kernel_rfl)
theorem door_shaped (os : Os) (args : Array Value) : ((door os).forCall (fun _ _ => 0) ⟨#[], args, []⟩).Shaped Tryd.prog :=
  World.shaped_of_ZipB (by kernel_rfl) (by kernel_rfl)
end Go.Proofs.YtdjffafcmomalaaDoor.Laid
/- The wrap of a row with listed variables, the world's shape and the sizes of what came in. -/
set_option linter.unusedVariables false
set_option linter.unusedSimpArgs false
namespace Go.Proofs.YtdjffafcmomalaaDoor.Laid
open Go Go.ChangeShapes Go.WideShapes Go.ChangeAt Go.RowKit
open Go.Proofs.YtdjffafcmomalaaDoor.Scr (GOk)

/-- The plain wrap with all three: a condition on the heap, the world's shape, and the sizes. -/
theorem handed_all {H : Type} {enc : TypeId × Value → H} {a : Assume} {C : Checked} {os : Os} {f : FuncId} {fn : Func} {s : ChangeSpec} {conds : List PathCond} {apart fresh handsOn again : Bool} {X : World → Array Value → Prop}
    (hX : ∀ (w w' : World) (args : Array Value), w.heap = w'.heap → X w args → X w' args)
    (own : ownKnob C.prog.godebug = none) (started : os.Started) (noInit : C.prog.inits.idxOf? f = none) (hfn : C.prog.funcs[f]? = some fn)
    (witness : ∃ (w : World) (tape : Tape) (i : Input), w.os = os ∧ (w.forCall tape i).Shaped C.prog ∧ i.vars = [] ∧ Input.okWide C.prog (w.forCall tape i) .any w.heap.size f i ∧
      ((s.pre enc C.prog fn conds apart (w.forCall tape i).memory i.args ∧ X (w.forCall tape i).memory i.args) ∧ sizedMet enc C.prog fn (OpenSpec.ofChange s) apart (w.forCall tape i).memory i.args) ∧ a.holds C.prog (lone (Frame.enter C.prog f i.args .normal) [] (w.forCall tape i)))
    (contract : ∀ (W : World) (base : Nat) (args : Array Value) (ds gs : List (DataW H)) (before : List MemPlace),
      (∀ (j : Nat) t v, fn.params[j]? = some t → args[j]? = some v → Value.okWide C.prog W .any base t v) →
      DataW.Whole enc C.prog fn.params.toList s.vars apart W args.toList ds gs before → X W args → W.ShapedOpen C.prog → (DataW.weightsEach C.prog (fn.params.toList ++ s.plain.varTypes C.prog) (ds ++ gs)).all (· ≤ reachBytes) = true →
      Calls C.prog f args W fun e W' => ∃ v, e = .returned v ∧ s.post enc C.prog fn apart fresh handsOn again W args v W') :
    ReturnsInHanded a C os f .any (fun w args => (s.pre enc C.prog fn conds apart w args ∧ X w args) ∧ sizedMet enc C.prog fn (OpenSpec.ofChange s) apart w args) (s.post enc C.prog fn apart fresh handsOn again) := by
  refine returnsInHanded_of_calls own started noInit witness fun w tape i _ hsh _ hok hpre _ => ?_
  obtain ⟨_, _, _, fn', hfn', _, _, _, _, hval⟩ := hok
  obtain rfl : fn' = fn := Option.some.inj (hfn'.symm.trans hfn)
  obtain ⟨⟨⟨ds, gs, before, hw, hc⟩, hx⟩, hz⟩ := hpre
  refine (contract (w.forCall tape i) w.heap.size i.args ds gs before hval (DataW.Whole.of_heap (w' := w.forCall tape i) (by rfl) hw) (hX _ _ _ (by rfl) hx) hsh (hz.weights hw)).mono fun e W' ⟨v, he, hp⟩ => ?_
  subst he
  exact ChangeSpec.post_blind hp

end Go.Proofs.YtdjffafcmomalaaDoor.Laid
/- bits.Hex at two and at four digits. -/
set_option linter.unusedVariables false
set_option linter.unusedSimpArgs false
namespace Go.Proofs.YtdjffafcmomalaaDoor.Scr
open Go Go.RowKit
open Go.Proofs.YtdjffafcmomalaaDoorW.PrintWords Go.Proofs.YtdjffafcmomalaaDoor.PScr

def hexD (d : Int) : Int := if d < 10 then 48 + d else 87 + d
theorem digit_fin : ∀ i : Fin 16, ((#[48, 49, 50, 51, 52, 53, 54, 55, 56, 57, 97, 98, 99, 100, 101, 102] : Array UInt8)[i.val]'(i.isLt)).toNat = hexD (i.val : Int) := by decide +kernel
theorem digit_of (x : Int) : ∀ (h : (x % 16).toNat < (⟨#[48, 49, 50, 51, 52, 53, 54, 55, 56, 57, 97, 98, 99, 100, 101, 102]⟩ : ByteArray).size), (((⟨#[48, 49, 50, 51, 52, 53, 54, 55, 56, 57, 97, 98, 99, 100, 101, 102]⟩ : ByteArray)[(x % 16).toNat]).toNat : Int) = hexD (x % 16) := by
  intro h
  have h16 : (⟨#[48, 49, 50, 51, 52, 53, 54, 55, 56, 57, 97, 98, 99, 100, 101, 102]⟩ : ByteArray).size = 16 := rfl
  obtain ⟨d, hd⟩ : ∃ d : Nat, x % 16 = d := ⟨(x % 16).toNat, by omega⟩
  simp only [hd, Int.toNat_natCast] at h ⊢
  exact digit_fin ⟨d, by omega⟩
theorem and15 (x : Int) (h0 : 0 ≤ x) (h1 : x < 65536) : Go.bits .and .i64 x 15 = x % 16 := bits_mask .i64 20 (by decide) (fun n a b => by rw [IntKind.wrap_i64]; omega) 4 (by decide) x h0 (by omega)

def R8 (w : World) (b : Nat) (v : Value) (l : List Int) : Prop := (Kd.int .u8).R 5 w b (fun _ => True) v l

theorem elem8 {w : World} {b0 g cap : Nat} {l : List Int} (h : R8 w b0 (.slice (some ⟨g, 0, none⟩) l.length cap) l) (i : Nat) (hi : i < l.length) (p : Int) :
    (∃ u, w.cell? ⟨g, i, none⟩ = some (.int .u8 u)) ∧ w.frozen? ⟨g, i, none⟩ = false ∧
    R8 (w.setCell ⟨g, i, none⟩ (.int .u8 p)) b0 (.slice (some ⟨g, 0, none⟩) l.length cap) (l.set i p) ∧ w.grownBy (w.setCell ⟨g, i, none⟩ (.int .u8 p)) (some g) := by
  obtain ⟨q0, f0⟩ := Kd.R_cell (0 : Int) h (i : Int) (by omega) (by omega)
  obtain ⟨hS, hG⟩ := Kd.R_put h (i : Int) p
  simp only [Int.toNat_natCast] at q0 f0 hS hG
  exact ⟨⟨_, q0⟩, f0, hS, hG⟩

theorem make_u8 (w : World) (n : Nat) (hn : n ≤ 1000000000000) : (Instr.makeSlice 57 (.int .i64 (n : Int)) (.int .i64 (n : Int))).run Tryd.prog w = .ok (.slice (some ⟨w.heap.size, 0, none⟩) n n) (w.alloc (.cells (madeCells (Value.int .u8 0).cells (n * 1)) 5)) := by
  obtain ⟨i0, hi, hzz⟩ := Option.map_eq_some_iff.1 info5
  simp only [Prod.mk.injEq] at hzz
  obtain ⟨hz0, hz1, hz2⟩ := hzz
  have h := run_make (P := Tryd.prog) (w := w) 57 5 i0 _ Tryd.underlying57 hi hz0 .i64 .i64 (n : Int) (n : Int) (by omega) (Int.le_refl _) (by rw [hz2]; omega) (by omega)
  rw [hz1, Int.toNat_natCast] at h
  exact h

theorem made_row (w : World) (n : Nat) (hn : n ≤ 1000000000000) : R8 (w.alloc (.cells (madeCells (Value.int .u8 0).cells (n * 1)) 5)) w.heap.size (.slice (some ⟨w.heap.size, 0, none⟩) n n) (List.replicate n 0) := by
  refine ⟨fun _ _ => trivial, (madeCells (Value.int .u8 0).cells (n * 1)).toList, ⟨by simp [size_madeCells, Kd.int, Kd.scalar], .inr ⟨w.heap.size, n, _, by simp, Nat.le_refl _, heap_alloc_new w _, by simp, by simp only [maxLen]; omega, by simp [size_madeCells, Kd.int, Kd.scalar], ?_⟩⟩, ?_⟩
  · rw [List.take_of_length_le (by simp [size_madeCells, Kd.int, Kd.scalar])]
  · exact Kd.reps_made (R := fun (x : Int) (cs : List Value) => cs = [Value.int .u8 x]) (z := .int .u8 0) (size := 1) (z0 := 0) rfl (Nat.lt_succ_self 0) rfl n

def hexS4 (n : Int) : ByteArray := strOfNums [hexD ((n / 16 / 16 / 16) % 16), hexD ((n / 16 / 16) % 16), hexD ((n / 16) % 16), hexD ((n) % 16)]
def HexRel4 (n : Int) (w : World) (s0 s28 : Value) (wr : World) : Prop := (s0 = .int .i64 (n) ∧ s28 = .int .i64 0 ∧ Aside0 (R8 wr w.heap.size (.slice (some ⟨w.heap.size, 0, none⟩) 4 4) [0, 0, 0, 0] ∧ Below w.heap.size w wr)) ∨ (s0 = .int .i64 (n / 16) ∧ s28 = .int .i64 1 ∧ Aside0 (R8 wr w.heap.size (.slice (some ⟨w.heap.size, 0, none⟩) 4 4) [0, 0, 0, hexD ((n) % 16)] ∧ Below w.heap.size w wr)) ∨ (s0 = .int .i64 (n / 16 / 16) ∧ s28 = .int .i64 2 ∧ Aside0 (R8 wr w.heap.size (.slice (some ⟨w.heap.size, 0, none⟩) 4 4) [0, 0, hexD ((n / 16) % 16), hexD ((n) % 16)] ∧ Below w.heap.size w wr)) ∨ (s0 = .int .i64 (n / 16 / 16 / 16) ∧ s28 = .int .i64 3 ∧ Aside0 (R8 wr w.heap.size (.slice (some ⟨w.heap.size, 0, none⟩) 4 4) [0, hexD ((n / 16 / 16) % 16), hexD ((n / 16) % 16), hexD ((n) % 16)] ∧ Below w.heap.size w wr)) ∨ (s0 = .int .i64 (n / 16 / 16 / 16 / 16) ∧ s28 = .int .i64 4 ∧ Aside0 (R8 wr w.heap.size (.slice (some ⟨w.heap.size, 0, none⟩) 4 4) [hexD ((n / 16 / 16 / 16) % 16), hexD ((n / 16 / 16) % 16), hexD ((n / 16) % 16), hexD ((n) % 16)] ∧ Below w.heap.size w wr))
set_option maxRecDepth 100000 in
set_option maxHeartbeats 4000000 in
theorem hex4 (n : Int) (h0 : 0 ≤ n) (hn : n < 65536) (w : World) : Calls Tryd.prog 53 #[.int .i64 n, .int .i64 4] w fun e w' => e = .returned (.string (hexS4 n)) ∧ Below w.heap.size w w' := by
  have hm : (Instr.makeSlice 57 (.int .i64 4) (.int .i64 4)).run Tryd.prog w = .ok (.slice (some ⟨w.heap.size, 0, none⟩) 4 4) (w.alloc (.cells (madeCells (Value.int .u8 0).cells (4 * 1)) 5)) := make_u8 w 4 (by omega)
  have HR : Aside0 (R8 (w.alloc (.cells (madeCells (Value.int .u8 0).cells (4 * 1)) 5)) w.heap.size (.slice (some ⟨w.heap.size, 0, none⟩) 4 4) [0, 0, 0, 0] ∧ Below w.heap.size w (w.alloc (.cells (madeCells (Value.int .u8 0).cells (4 * 1)) 5))) := ⟨made_row w 4 (by omega), below_alloc (Below.refl w.heap.size w) _⟩
  generalize w.alloc (.cells (madeCells (Value.int .u8 0).cells (4 * 1)) 5) = W at hm HR
  go_enter Tryd.func53, Tryd.ntmps53
  go_wp2
  clear hm
  go_loopw [0, 6, 28] (fun s0 _ s28 wr => HexRel4 n w s0 s28 wr) (fun _ _ s28 _ => 4 - (RowKit.intOf s28).toNat)
  case atStart => exact .inl ⟨rfl, rfl, HR⟩
  case round =>
    clear HR
    rcases hrel with ⟨rfl, rfl, HP⟩ | ⟨rfl, rfl, HP⟩ | ⟨rfl, rfl, HP⟩ | ⟨rfl, rfl, HP⟩ | ⟨rfl, rfl, HP⟩
    · obtain ⟨⟨u, q⟩, f, hS, hG⟩ := elem8 HP.out.1 3 (by simp) (hexD ((n) % 16))
      have HN : Aside0 (R8 (wr.setCell ⟨w.heap.size, 3, none⟩ (.int .u8 (hexD ((n) % 16)))) w.heap.size (.slice (some ⟨w.heap.size, 0, none⟩) 4 4) [0, 0, 0, hexD ((n) % 16)] ∧ Below w.heap.size w (wr.setCell ⟨w.heap.size, 3, none⟩ (.int .u8 (hexD ((n) % 16))))) := ⟨hS, HP.out.2.grown hG HP.out.2.size (fun k hk => by cases hk; exact Nat.le_refl _)⟩
      clear hS hG HP
      have y0 : 0 ≤ n := by omega
      have y1 : n < 65536 := by omega
      have a0 := and15 (n) y0 y1
      have z0 : 0 ≤ (n) % 16 := by omega
      have z1 : (n) % 16 < 16 := by omega
      have dg := digit_of (n)
      go_wp2
      go_roundw
      case rel => exact .inr (.inl ⟨rfl, rfl, HN⟩)
      case measure => simp [RowKit.intOf]
    · obtain ⟨⟨u, q⟩, f, hS, hG⟩ := elem8 HP.out.1 2 (by simp) (hexD ((n / 16) % 16))
      have HN : Aside0 (R8 (wr.setCell ⟨w.heap.size, 2, none⟩ (.int .u8 (hexD ((n / 16) % 16)))) w.heap.size (.slice (some ⟨w.heap.size, 0, none⟩) 4 4) [0, 0, hexD ((n / 16) % 16), hexD ((n) % 16)] ∧ Below w.heap.size w (wr.setCell ⟨w.heap.size, 2, none⟩ (.int .u8 (hexD ((n / 16) % 16))))) := ⟨hS, HP.out.2.grown hG HP.out.2.size (fun k hk => by cases hk; exact Nat.le_refl _)⟩
      clear hS hG HP
      have y0 : 0 ≤ n / 16 := by omega
      have y1 : n / 16 < 65536 := by omega
      have a0 := and15 (n / 16) y0 y1
      have z0 : 0 ≤ (n / 16) % 16 := by omega
      have z1 : (n / 16) % 16 < 16 := by omega
      have dg := digit_of (n / 16)
      go_wp2
      go_roundw
      case rel => exact .inr (.inr (.inl ⟨rfl, rfl, HN⟩))
      case measure => simp [RowKit.intOf]
    · obtain ⟨⟨u, q⟩, f, hS, hG⟩ := elem8 HP.out.1 1 (by simp) (hexD ((n / 16 / 16) % 16))
      have HN : Aside0 (R8 (wr.setCell ⟨w.heap.size, 1, none⟩ (.int .u8 (hexD ((n / 16 / 16) % 16)))) w.heap.size (.slice (some ⟨w.heap.size, 0, none⟩) 4 4) [0, hexD ((n / 16 / 16) % 16), hexD ((n / 16) % 16), hexD ((n) % 16)] ∧ Below w.heap.size w (wr.setCell ⟨w.heap.size, 1, none⟩ (.int .u8 (hexD ((n / 16 / 16) % 16))))) := ⟨hS, HP.out.2.grown hG HP.out.2.size (fun k hk => by cases hk; exact Nat.le_refl _)⟩
      clear hS hG HP
      have y0 : 0 ≤ n / 16 / 16 := by omega
      have y1 : n / 16 / 16 < 65536 := by omega
      have a0 := and15 (n / 16 / 16) y0 y1
      have z0 : 0 ≤ (n / 16 / 16) % 16 := by omega
      have z1 : (n / 16 / 16) % 16 < 16 := by omega
      have dg := digit_of (n / 16 / 16)
      go_wp2
      go_roundw
      case rel => exact .inr (.inr (.inr (.inl ⟨rfl, rfl, HN⟩)))
      case measure => simp [RowKit.intOf]
    · obtain ⟨⟨u, q⟩, f, hS, hG⟩ := elem8 HP.out.1 0 (by simp) (hexD ((n / 16 / 16 / 16) % 16))
      have HN : Aside0 (R8 (wr.setCell ⟨w.heap.size, 0, none⟩ (.int .u8 (hexD ((n / 16 / 16 / 16) % 16)))) w.heap.size (.slice (some ⟨w.heap.size, 0, none⟩) 4 4) [hexD ((n / 16 / 16 / 16) % 16), hexD ((n / 16 / 16) % 16), hexD ((n / 16) % 16), hexD ((n) % 16)] ∧ Below w.heap.size w (wr.setCell ⟨w.heap.size, 0, none⟩ (.int .u8 (hexD ((n / 16 / 16 / 16) % 16))))) := ⟨hS, HP.out.2.grown hG HP.out.2.size (fun k hk => by cases hk; exact Nat.le_refl _)⟩
      clear hS hG HP
      have y0 : 0 ≤ n / 16 / 16 / 16 := by omega
      have y1 : n / 16 / 16 / 16 < 65536 := by omega
      have a0 := and15 (n / 16 / 16 / 16) y0 y1
      have z0 : 0 ≤ (n / 16 / 16 / 16) % 16 := by omega
      have z1 : (n / 16 / 16 / 16) % 16 < 16 := by omega
      have dg := digit_of (n / 16 / 16 / 16)
      go_wp2
      go_roundw
      case rel => exact .inr (.inr (.inr (.inr (⟨rfl, rfl, HN⟩))))
      case measure => simp [RowKit.intOf]
    · have e1 := own_string (P := Tryd.prog) Tryd.underlying57 Tryd.underlying5 Tryd.underlying9 (Kd.own_of_R HP.out.1)
      go_wp2
      go_ret
      exact ⟨rfl, HP.out.2⟩

def hexS2 (n : Int) : ByteArray := strOfNums [hexD ((n / 16) % 16), hexD ((n) % 16)]
def HexRel2 (n : Int) (w : World) (s0 s28 : Value) (wr : World) : Prop := (s0 = .int .i64 (n) ∧ s28 = .int .i64 0 ∧ Aside0 (R8 wr w.heap.size (.slice (some ⟨w.heap.size, 0, none⟩) 2 2) [0, 0] ∧ Below w.heap.size w wr)) ∨ (s0 = .int .i64 (n / 16) ∧ s28 = .int .i64 1 ∧ Aside0 (R8 wr w.heap.size (.slice (some ⟨w.heap.size, 0, none⟩) 2 2) [0, hexD ((n) % 16)] ∧ Below w.heap.size w wr)) ∨ (s0 = .int .i64 (n / 16 / 16) ∧ s28 = .int .i64 2 ∧ Aside0 (R8 wr w.heap.size (.slice (some ⟨w.heap.size, 0, none⟩) 2 2) [hexD ((n / 16) % 16), hexD ((n) % 16)] ∧ Below w.heap.size w wr))
set_option maxRecDepth 100000 in
set_option maxHeartbeats 4000000 in
theorem hex2 (n : Int) (h0 : 0 ≤ n) (hn : n < 256) (w : World) : Calls Tryd.prog 53 #[.int .i64 n, .int .i64 2] w fun e w' => e = .returned (.string (hexS2 n)) ∧ Below w.heap.size w w' := by
  have hm : (Instr.makeSlice 57 (.int .i64 2) (.int .i64 2)).run Tryd.prog w = .ok (.slice (some ⟨w.heap.size, 0, none⟩) 2 2) (w.alloc (.cells (madeCells (Value.int .u8 0).cells (2 * 1)) 5)) := make_u8 w 2 (by omega)
  have HR : Aside0 (R8 (w.alloc (.cells (madeCells (Value.int .u8 0).cells (2 * 1)) 5)) w.heap.size (.slice (some ⟨w.heap.size, 0, none⟩) 2 2) [0, 0] ∧ Below w.heap.size w (w.alloc (.cells (madeCells (Value.int .u8 0).cells (2 * 1)) 5))) := ⟨made_row w 2 (by omega), below_alloc (Below.refl w.heap.size w) _⟩
  generalize w.alloc (.cells (madeCells (Value.int .u8 0).cells (2 * 1)) 5) = W at hm HR
  go_enter Tryd.func53, Tryd.ntmps53
  go_wp2
  clear hm
  go_loopw [0, 6, 28] (fun s0 _ s28 wr => HexRel2 n w s0 s28 wr) (fun _ _ s28 _ => 2 - (RowKit.intOf s28).toNat)
  case atStart => exact .inl ⟨rfl, rfl, HR⟩
  case round =>
    clear HR
    rcases hrel with ⟨rfl, rfl, HP⟩ | ⟨rfl, rfl, HP⟩ | ⟨rfl, rfl, HP⟩
    · obtain ⟨⟨u, q⟩, f, hS, hG⟩ := elem8 HP.out.1 1 (by simp) (hexD ((n) % 16))
      have HN : Aside0 (R8 (wr.setCell ⟨w.heap.size, 1, none⟩ (.int .u8 (hexD ((n) % 16)))) w.heap.size (.slice (some ⟨w.heap.size, 0, none⟩) 2 2) [0, hexD ((n) % 16)] ∧ Below w.heap.size w (wr.setCell ⟨w.heap.size, 1, none⟩ (.int .u8 (hexD ((n) % 16))))) := ⟨hS, HP.out.2.grown hG HP.out.2.size (fun k hk => by cases hk; exact Nat.le_refl _)⟩
      clear hS hG HP
      have y0 : 0 ≤ n := by omega
      have y1 : n < 65536 := by omega
      have a0 := and15 (n) y0 y1
      have z0 : 0 ≤ (n) % 16 := by omega
      have z1 : (n) % 16 < 16 := by omega
      have dg := digit_of (n)
      go_wp2
      go_roundw
      case rel => exact .inr (.inl ⟨rfl, rfl, HN⟩)
      case measure => simp [RowKit.intOf]
    · obtain ⟨⟨u, q⟩, f, hS, hG⟩ := elem8 HP.out.1 0 (by simp) (hexD ((n / 16) % 16))
      have HN : Aside0 (R8 (wr.setCell ⟨w.heap.size, 0, none⟩ (.int .u8 (hexD ((n / 16) % 16)))) w.heap.size (.slice (some ⟨w.heap.size, 0, none⟩) 2 2) [hexD ((n / 16) % 16), hexD ((n) % 16)] ∧ Below w.heap.size w (wr.setCell ⟨w.heap.size, 0, none⟩ (.int .u8 (hexD ((n / 16) % 16))))) := ⟨hS, HP.out.2.grown hG HP.out.2.size (fun k hk => by cases hk; exact Nat.le_refl _)⟩
      clear hS hG HP
      have y0 : 0 ≤ n / 16 := by omega
      have y1 : n / 16 < 65536 := by omega
      have a0 := and15 (n / 16) y0 y1
      have z0 : 0 ≤ (n / 16) % 16 := by omega
      have z1 : (n / 16) % 16 < 16 := by omega
      have dg := digit_of (n / 16)
      go_wp2
      go_roundw
      case rel => exact .inr (.inr (⟨rfl, rfl, HN⟩))
      case measure => simp [RowKit.intOf]
    · have e1 := own_string (P := Tryd.prog) Tryd.underlying57 Tryd.underlying5 Tryd.underlying9 (Kd.own_of_R HP.out.1)
      go_wp2
      go_ret
      exact ⟨rfl, HP.out.2⟩

end Go.Proofs.YtdjffafcmomalaaDoor.Scr
/- script.flags: seven words, each with the place of a span's field. -/
set_option linter.unusedVariables false
set_option linter.unusedSimpArgs false
namespace Go.Proofs.YtdjffafcmomalaaDoor.Scr
open Go Go.RowKit
open Go.Proofs.YtdjffafcmomalaaDoorW.PrintWords Go.Proofs.YtdjffafcmomalaaDoor.PScr

def ptr (g k : Nat) : Value := .pointer (some ⟨g, k, none⟩)
/-- The cells of script.flags' list. -/
def flagCells (g : Nat) : Array Value := #[.string ⟨#[116, 97, 112, 101]⟩, .pointer (some ⟨g, 2, none⟩), .string ⟨#[102, 108, 97, 103]⟩, .pointer (some ⟨g, 3, none⟩), .string ⟨#[105, 110]⟩, .pointer (some ⟨g, 4, none⟩), .string ⟨#[111, 117, 116]⟩, .pointer (some ⟨g, 5, none⟩), .string ⟨#[105, 110, 116]⟩, .pointer (some ⟨g, 6, none⟩), .string ⟨#[99, 108, 101, 97, 114]⟩, .pointer (some ⟨g, 7, none⟩), .string ⟨#[119, 97, 105, 116]⟩, .pointer (some ⟨g, 8, none⟩)]

set_option maxRecDepth 100000 in
set_option maxHeartbeats 4000000 in
theorem flags_calls (g : Nat) (w : World) : Calls Tryd.prog 54 #[.pointer (some ⟨g, 0, none⟩)] w fun e w' => e = .returned (.slice (some ⟨w.heap.size, 0, none⟩) 7 7) ∧ ∃ n, w' = (w.drewN n).alloc (.cells (flagCells g) 86) := by
  go_enter Tryd.func54, Tryd.ntmps54
  go_wp2
  go_still_tail 28, (by kernel_rfl)
  go_wp2
  go_ret
  exact ⟨by simp, _, rfl⟩
end Go.Proofs.YtdjffafcmomalaaDoor.Scr
/- script.line: a span's line, without its end. -/
set_option linter.unusedVariables false
set_option linter.unusedSimpArgs false
namespace Go.Proofs.YtdjffafcmomalaaDoor.Scr
open Go Go.RowKit
open Go.Proofs.YtdjffafcmomalaaDoorW.PrintWords Go.Proofs.YtdjffafcmomalaaDoor.PScr

def word (b : Bool) (t x : ByteArray) : ByteArray := if b then t ++ ((⟨#[32]⟩ : ByteArray) ++ x) else t
/-- The words of a span's line, as far as k of the seven flags. -/
def lineK (s : S34) : ByteArray := if s.f1 = 0 then ⟨(Lib.itoa s.f0).toArray⟩ else (⟨(Lib.itoa s.f0).toArray⟩ : ByteArray) ++ ((⟨#[32, 107, 101, 121, 115, 32]⟩ : ByteArray) ++ hexS4 s.f1)
def line1 (s : S34) : ByteArray := word s.f2 (lineK s) ⟨#[116, 97, 112, 101]⟩
def line2 (s : S34) : ByteArray := word s.f3 (line1 s) ⟨#[102, 108, 97, 103]⟩
def line3 (s : S34) : ByteArray := word s.f4 (line2 s) ⟨#[105, 110]⟩
def line4 (s : S34) : ByteArray := word s.f5 (line3 s) ⟨#[111, 117, 116]⟩
def line5 (s : S34) : ByteArray := word s.f6 (line4 s) ⟨#[105, 110, 116]⟩
def line6 (s : S34) : ByteArray := word s.f7 (line5 s) ⟨#[99, 108, 101, 97, 114]⟩
def line7 (s : S34) : ByteArray := word s.f8 (line6 s) ⟨#[119, 97, 105, 116]⟩
def lineB (s : S34) : ByteArray := if s.f9 = 0 then line7 s else line7 s ++ ((⟨#[32, 98, 117, 115, 32]⟩ : ByteArray) ++ hexS2 s.f9)

def cells34 (s : S34) : Array Value := #[.int .i64 s.f0, .int .u16 s.f1, .bool s.f2, .bool s.f3, .bool s.f4, .bool s.f5, .bool s.f6, .bool s.f7, .bool s.f8, .int .u8 s.f9]
def Bx (s : S34) (b : Nat) (w : World) : Prop := w.heap[b]? = some (.cells #[.int .i64 s.f0, .int .u16 s.f1, .bool s.f2, .bool s.f3, .bool s.f4, .bool s.f5, .bool s.f6, .bool s.f7, .bool s.f8, .int .u8 s.f9] 34 (0, 0))
theorem Bx.below {s : S34} {b : Nat} {w w1 : World} (h : Bx s b w) (hb : Below w.heap.size w w1) : Bx s b w1 := (hb.block b (Array.getElem?_eq_some_iff.1 h).1).trans h
def Fx (g b : Nat) (w : World) : Prop := w.heap[b]? = some (.cells (flagCells g) 86 (0, 0))
theorem Fx.below {g b : Nat} {w w1 : World} (h : Fx g b w) (hb : Below w.heap.size w w1) : Fx g b w1 := (hb.block b (Array.getElem?_eq_some_iff.1 h).1).trans h
theorem itoa_len (n : Int) (h0 : -9223372036854775808 ≤ n) (h1 : n ≤ 9223372036854775807) : (⟨(Lib.itoa n).toArray⟩ : ByteArray).size ≤ 30 := by
  have := Lib.itoa_length_le n h0 h1
  show (Lib.itoa n).toArray.size ≤ 30
  simp; omega
theorem hexS4_size (n : Int) : (hexS4 n).size = 4 := rfl
theorem hexS2_size (n : Int) : (hexS2 n).size = 2 := rfl

def LineRel (s : S34) (v3 v21 : Value) : Prop := (v3 = .string (lineK s) ∧ v21 = .int .i64 0) ∨ (v3 = .string (line1 s) ∧ v21 = .int .i64 1) ∨ (v3 = .string (line2 s) ∧ v21 = .int .i64 2) ∨ (v3 = .string (line3 s) ∧ v21 = .int .i64 3) ∨ (v3 = .string (line4 s) ∧ v21 = .int .i64 4) ∨ (v3 = .string (line5 s) ∧ v21 = .int .i64 5) ∨ (v3 = .string (line6 s) ∧ v21 = .int .i64 6) ∨ (v3 = .string (line7 s) ∧ v21 = .int .i64 7)
theorem word_size (b : Bool) (t x : ByteArray) (n : Nat) (h : t.size ≤ n) (hx : x.size ≤ 5) : (word b t x).size ≤ n + 6 := by
  unfold word
  split
  · simp only [ByteArray.size_append]
    have : (⟨#[32]⟩ : ByteArray).size = 1 := rfl
    omega
  · omega
theorem lineK_size (s : S34) (h : (⟨(Lib.itoa s.f0).toArray⟩ : ByteArray).size ≤ 30) : (lineK s).size ≤ 40 := by
  unfold lineK
  split
  · omega
  · simp only [ByteArray.size_append, hexS4_size]
    have : (⟨#[32, 107, 101, 121, 115, 32]⟩ : ByteArray).size = 6 := rfl
    omega
theorem line_sizes (s : S34) (h : (⟨(Lib.itoa s.f0).toArray⟩ : ByteArray).size ≤ 30) : (lineK s).size ≤ 40 ∧ (line1 s).size ≤ 46 ∧ (line2 s).size ≤ 52 ∧ (line3 s).size ≤ 58 ∧ (line4 s).size ≤ 64 ∧ (line5 s).size ≤ 70 ∧ (line6 s).size ≤ 76 ∧ (line7 s).size ≤ 82 := by
  have k0 := lineK_size s h
  have k1 := word_size s.f2 (lineK s) ⟨#[116, 97, 112, 101]⟩ 40 k0 (by decide)
  have k2 := word_size s.f3 (line1 s) ⟨#[102, 108, 97, 103]⟩ 46 k1 (by decide)
  have k3 := word_size s.f4 (line2 s) ⟨#[105, 110]⟩ 52 k2 (by decide)
  have k4 := word_size s.f5 (line3 s) ⟨#[111, 117, 116]⟩ 58 k3 (by decide)
  have k5 := word_size s.f6 (line4 s) ⟨#[105, 110, 116]⟩ 64 k4 (by decide)
  have k6 := word_size s.f7 (line5 s) ⟨#[99, 108, 101, 97, 114]⟩ 70 k5 (by decide)
  have k7 := word_size s.f8 (line6 s) ⟨#[119, 97, 105, 116]⟩ 76 k6 (by decide)
  exact ⟨k0, k1, k2, k3, k4, k5, k6, k7⟩

set_option maxRecDepth 100000 in
set_option maxHeartbeats 4000000 in
theorem line_calls (s : S34) (w0 : World) (h0 : -9223372036854775808 ≤ s.f0) (h1 : s.f0 ≤ 9223372036854775807) (h2 : 0 ≤ s.f1) (h3 : s.f1 < 65536) (h4 : 0 ≤ s.f9) (h5 : s.f9 < 256) (hG : GOk w0) :
    Calls Tryd.prog 36 #[.agg #[.int .i64 s.f0, .int .u16 s.f1, .bool s.f2, .bool s.f3, .bool s.f4, .bool s.f5, .bool s.f6, .bool s.f7, .bool s.f8, .int .u8 s.f9]] w0 fun e w' => e = .returned (.string (lineB s)) ∧ Below w0.heap.size w0 w' := by
  have HG := Aside0.mk hG
  clear hG
  have hit : strconv_Itoa_52.f s.f0 = some ⟨(Lib.itoa s.f0).toArray⟩ := by unfold strconv_Itoa_52.f; rw [if_pos h0, if_pos h1]
  have HI := Aside0.mk hit
  clear hit
  obtain ⟨t0, ht0⟩ : ∃ t0 : ByteArray, t0 = ⟨(Lib.itoa s.f0).toArray⟩ := ⟨_, rfl⟩
  have hsz : t0.size ≤ 30 := by rw [ht0]; exact itoa_len _ h0 h1
  rw [← ht0] at HI
  have T0 := Aside0.mk ht0
  clear ht0
  have b4 := hexS4_size s.f1
  have HBX : Aside0 (Bx s w0.heap.size (w0.alloc (.cells #[.int .i64 s.f0, .int .u16 s.f1, .bool s.f2, .bool s.f3, .bool s.f4, .bool s.f5, .bool s.f6, .bool s.f7, .bool s.f8, .int .u8 s.f9] 34))) := ⟨heap_alloc_new w0 _⟩
  have HB := Aside0.mk (below_alloc (Below.refl w0.heap.size w0) (.cells #[.int .i64 s.f0, .int .u16 s.f1, .bool s.f2, .bool s.f3, .bool s.f4, .bool s.f5, .bool s.f6, .bool s.f7, .bool s.f8, .int .u8 s.f9] 34))
  go_enter Tryd.func36, Tryd.ntmps36
  go_wp2_with fail
  generalize w0.alloc (.cells #[.int .i64 s.f0, .int .u16 s.f1, .bool s.f2, .bool s.f3, .bool s.f4, .bool s.f5, .bool s.f6, .bool s.f7, .bool s.f8, .int .u8 s.f9] 34) = w at HBX HB ⊢
  (with_reducible refine (strconv_Itoa_52.calls s.f0 t0 w HI.out (GOk.below HG.out HB.out)).mono ?_)
  rintro e w1 ⟨rfl, hb⟩
  have BX1 := Aside0.mk (HBX.out.below hb)
  have B1 := Aside0.mk (below_step HB.out hb)
  clear hb HBX HB
  have c1 : w1.cell? ⟨w0.heap.size, 1, none⟩ = some (.int .u16 s.f1) := (blk_cell BX1.out 1).trans rfl
  go_upto_if 11 with (fail)
  go_cut [3] (fun v3 wc => v3 = .string (lineK s) ∧ Aside0 (Bx s w0.heap.size wc) ∧ Aside0 (Below w0.heap.size w0 wc))
  case first =>
    by_cases hk : s.f1 = 0
    · have k0 : (s.f1 == 0) = true := beq_iff_eq.mpr hk
      have k1 : (s.f1 != 0) = false := bne_eq_false_iff_eq.mpr hk
      have e : lineK s = t0 := by unfold lineK; rw [if_pos hk, T0.out]
      have E := Aside0.mk e
      clear hk e
      go_wp2
      go_meet
      case rel => exact ⟨by rw [E.out], BX1, B1⟩
    · have k0 : (s.f1 == 0) = false := beq_eq_false_iff_ne.mpr hk
      have k1 : (s.f1 != 0) = true := bne_iff_ne.mpr hk
      have e : lineK s = t0 ++ ((⟨#[32, 107, 101, 121, 115, 32]⟩ : ByteArray) ++ hexS4 s.f1) := by unfold lineK; rw [if_neg hk, T0.out]
      have E := Aside0.mk e
      clear hk e
      go_wp2_with fail
      (with_reducible refine (hex4 s.f1 h2 h3 _).mono ?_)
      rintro e w2 ⟨rfl, hb⟩
      have BX2 := Aside0.mk (BX1.out.below hb)
      have B2 := Aside0.mk (below_step B1.out hb)
      clear hb
      go_wp2
      go_meet
      case rel => exact ⟨by rw [E.out], BX2, B2⟩
  case rest =>
    clear BX1 B1 c1 HI b4 hsz
    obtain ⟨rfl, BX1, B1⟩ := hcut
    have HSZ := Aside0.mk (line_sizes s (itoa_len _ h0 h1))
    go_wp2_with fail
    (with_reducible refine (flags_calls w0.heap.size _).mono ?_)
    rintro e w2 ⟨rfl, n2, rfl⟩
    have FX2 : Aside0 (Fx w0.heap.size wc.heap.size ((wc.drewN n2).alloc (.cells (flagCells w0.heap.size) 86))) := ⟨heap_alloc_new (wc.drewN n2) _⟩
    have BX2 : Aside0 (Bx s w0.heap.size ((wc.drewN n2).alloc (.cells (flagCells w0.heap.size) 86))) := ⟨BX1.out.below (below_alloc (pw_below_drewN (Below.refl _ _) n2) _)⟩
    have B2 : Aside0 (Below w0.heap.size w0 ((wc.drewN n2).alloc (.cells (flagCells w0.heap.size) 86))) := ⟨below_alloc (pw_below_drewN B1.out n2) _⟩
    clear BX1 B1
    generalize (wc.drewN n2).alloc (.cells (flagCells w0.heap.size) 86) = w2 at FX2 BX2 B2 ⊢
    generalize wc.heap.size = fb at FX2 ⊢
    go_wp2
    go_loopw [3, 21] (fun v3 v21 wr => LineRel s v3 v21 ∧ Aside0 (Bx s w0.heap.size wr) ∧ Aside0 (Fx w0.heap.size fb wr) ∧ Aside0 (Below w0.heap.size w0 wr)) (fun _ v21 _ => 7 - (RowKit.intOf v21).toNat)
    case atStart => exact ⟨.inl ⟨rfl, rfl⟩, BX2, FX2, B2⟩
    case round =>
      clear BX2 FX2 B2
      obtain ⟨hr, BX, FX, HB⟩ := hrel
      have hsz := HSZ.out
      rcases hr with ⟨rfl, rfl⟩ | ⟨rfl, rfl⟩ | ⟨rfl, rfl⟩ | ⟨rfl, rfl⟩ | ⟨rfl, rfl⟩ | ⟨rfl, rfl⟩ | ⟨rfl, rfl⟩ | ⟨rfl, rfl⟩
      · have q0 : wr.cell? ⟨fb, 0, none⟩ = some (.string ⟨#[116, 97, 112, 101]⟩) := (blk_cell FX.out 0).trans rfl
        have q1 : wr.cell? ⟨fb, 1, none⟩ = some (.pointer (some ⟨w0.heap.size, 2, none⟩)) := (blk_cell FX.out 1).trans rfl
        have q2 : wr.cell? ⟨w0.heap.size, 2, none⟩ = some (.bool s.f2) := (blk_cell BX.out 2).trans rfl
        have z : (lineK s).size ≤ 100 := by omega
        have n0 : w0.heap.size < wr.heap.size := World.block_lt_of_cell? _ _ q2
        have n1 : fb < wr.heap.size := World.block_lt_of_cell? _ _ q1
        have n2 : wr.heap.size ≠ w0.heap.size := by omega
        have n3 : w0.heap.size ≠ wr.heap.size := by omega
        have NB : Aside0 (∀ o, Bx s w0.heap.size (wr.alloc o) ∧ Fx w0.heap.size fb (wr.alloc o) ∧ Below w0.heap.size w0 (wr.alloc o)) := ⟨fun o => ⟨BX.out.below (below_alloc (Below.refl _ _) o), FX.out.below (below_alloc (Below.refl _ _) o), below_alloc HB.out o⟩⟩
        clear BX FX HB hsz
        have HE : Aside0 (line1 s = word s.f2 (lineK s) ⟨#[116, 97, 112, 101]⟩) := ⟨rfl⟩
        obtain ⟨fb_, hfb⟩ : ∃ x, s.f2 = x := ⟨_, rfl⟩
        rw [hfb] at q2 HE
        clear hfb
        cases fb_
        · go_wp2
          go_roundw
          case rel => exact ⟨.inr (.inl ⟨by rw [HE.out]; rfl, rfl⟩), ⟨(NB.out _).1⟩, ⟨(NB.out _).2.1⟩, ⟨(NB.out _).2.2⟩⟩
          case measure => simp [RowKit.intOf]
        · go_wp2
          go_roundw
          case rel => exact ⟨.inr (.inl ⟨by rw [HE.out]; rfl, rfl⟩), ⟨(NB.out _).1⟩, ⟨(NB.out _).2.1⟩, ⟨(NB.out _).2.2⟩⟩
          case measure => simp [RowKit.intOf]
      · have q0 : wr.cell? ⟨fb, 2, none⟩ = some (.string ⟨#[102, 108, 97, 103]⟩) := (blk_cell FX.out 2).trans rfl
        have q1 : wr.cell? ⟨fb, 3, none⟩ = some (.pointer (some ⟨w0.heap.size, 3, none⟩)) := (blk_cell FX.out 3).trans rfl
        have q2 : wr.cell? ⟨w0.heap.size, 3, none⟩ = some (.bool s.f3) := (blk_cell BX.out 3).trans rfl
        have z : (line1 s).size ≤ 100 := by omega
        have n0 : w0.heap.size < wr.heap.size := World.block_lt_of_cell? _ _ q2
        have n1 : fb < wr.heap.size := World.block_lt_of_cell? _ _ q1
        have n2 : wr.heap.size ≠ w0.heap.size := by omega
        have n3 : w0.heap.size ≠ wr.heap.size := by omega
        have NB : Aside0 (∀ o, Bx s w0.heap.size (wr.alloc o) ∧ Fx w0.heap.size fb (wr.alloc o) ∧ Below w0.heap.size w0 (wr.alloc o)) := ⟨fun o => ⟨BX.out.below (below_alloc (Below.refl _ _) o), FX.out.below (below_alloc (Below.refl _ _) o), below_alloc HB.out o⟩⟩
        clear BX FX HB hsz
        have HE : Aside0 (line2 s = word s.f3 (line1 s) ⟨#[102, 108, 97, 103]⟩) := ⟨rfl⟩
        obtain ⟨fb_, hfb⟩ : ∃ x, s.f3 = x := ⟨_, rfl⟩
        rw [hfb] at q2 HE
        clear hfb
        cases fb_
        · go_wp2
          go_roundw
          case rel => exact ⟨.inr (.inr (.inl ⟨by rw [HE.out]; rfl, rfl⟩)), ⟨(NB.out _).1⟩, ⟨(NB.out _).2.1⟩, ⟨(NB.out _).2.2⟩⟩
          case measure => simp [RowKit.intOf]
        · go_wp2
          go_roundw
          case rel => exact ⟨.inr (.inr (.inl ⟨by rw [HE.out]; rfl, rfl⟩)), ⟨(NB.out _).1⟩, ⟨(NB.out _).2.1⟩, ⟨(NB.out _).2.2⟩⟩
          case measure => simp [RowKit.intOf]
      · have q0 : wr.cell? ⟨fb, 4, none⟩ = some (.string ⟨#[105, 110]⟩) := (blk_cell FX.out 4).trans rfl
        have q1 : wr.cell? ⟨fb, 5, none⟩ = some (.pointer (some ⟨w0.heap.size, 4, none⟩)) := (blk_cell FX.out 5).trans rfl
        have q2 : wr.cell? ⟨w0.heap.size, 4, none⟩ = some (.bool s.f4) := (blk_cell BX.out 4).trans rfl
        have z : (line2 s).size ≤ 100 := by omega
        have n0 : w0.heap.size < wr.heap.size := World.block_lt_of_cell? _ _ q2
        have n1 : fb < wr.heap.size := World.block_lt_of_cell? _ _ q1
        have n2 : wr.heap.size ≠ w0.heap.size := by omega
        have n3 : w0.heap.size ≠ wr.heap.size := by omega
        have NB : Aside0 (∀ o, Bx s w0.heap.size (wr.alloc o) ∧ Fx w0.heap.size fb (wr.alloc o) ∧ Below w0.heap.size w0 (wr.alloc o)) := ⟨fun o => ⟨BX.out.below (below_alloc (Below.refl _ _) o), FX.out.below (below_alloc (Below.refl _ _) o), below_alloc HB.out o⟩⟩
        clear BX FX HB hsz
        have HE : Aside0 (line3 s = word s.f4 (line2 s) ⟨#[105, 110]⟩) := ⟨rfl⟩
        obtain ⟨fb_, hfb⟩ : ∃ x, s.f4 = x := ⟨_, rfl⟩
        rw [hfb] at q2 HE
        clear hfb
        cases fb_
        · go_wp2
          go_roundw
          case rel => exact ⟨.inr (.inr (.inr (.inl ⟨by rw [HE.out]; rfl, rfl⟩))), ⟨(NB.out _).1⟩, ⟨(NB.out _).2.1⟩, ⟨(NB.out _).2.2⟩⟩
          case measure => simp [RowKit.intOf]
        · go_wp2
          go_roundw
          case rel => exact ⟨.inr (.inr (.inr (.inl ⟨by rw [HE.out]; rfl, rfl⟩))), ⟨(NB.out _).1⟩, ⟨(NB.out _).2.1⟩, ⟨(NB.out _).2.2⟩⟩
          case measure => simp [RowKit.intOf]
      · have q0 : wr.cell? ⟨fb, 6, none⟩ = some (.string ⟨#[111, 117, 116]⟩) := (blk_cell FX.out 6).trans rfl
        have q1 : wr.cell? ⟨fb, 7, none⟩ = some (.pointer (some ⟨w0.heap.size, 5, none⟩)) := (blk_cell FX.out 7).trans rfl
        have q2 : wr.cell? ⟨w0.heap.size, 5, none⟩ = some (.bool s.f5) := (blk_cell BX.out 5).trans rfl
        have z : (line3 s).size ≤ 100 := by omega
        have n0 : w0.heap.size < wr.heap.size := World.block_lt_of_cell? _ _ q2
        have n1 : fb < wr.heap.size := World.block_lt_of_cell? _ _ q1
        have n2 : wr.heap.size ≠ w0.heap.size := by omega
        have n3 : w0.heap.size ≠ wr.heap.size := by omega
        have NB : Aside0 (∀ o, Bx s w0.heap.size (wr.alloc o) ∧ Fx w0.heap.size fb (wr.alloc o) ∧ Below w0.heap.size w0 (wr.alloc o)) := ⟨fun o => ⟨BX.out.below (below_alloc (Below.refl _ _) o), FX.out.below (below_alloc (Below.refl _ _) o), below_alloc HB.out o⟩⟩
        clear BX FX HB hsz
        have HE : Aside0 (line4 s = word s.f5 (line3 s) ⟨#[111, 117, 116]⟩) := ⟨rfl⟩
        obtain ⟨fb_, hfb⟩ : ∃ x, s.f5 = x := ⟨_, rfl⟩
        rw [hfb] at q2 HE
        clear hfb
        cases fb_
        · go_wp2
          go_roundw
          case rel => exact ⟨.inr (.inr (.inr (.inr (.inl ⟨by rw [HE.out]; rfl, rfl⟩)))), ⟨(NB.out _).1⟩, ⟨(NB.out _).2.1⟩, ⟨(NB.out _).2.2⟩⟩
          case measure => simp [RowKit.intOf]
        · go_wp2
          go_roundw
          case rel => exact ⟨.inr (.inr (.inr (.inr (.inl ⟨by rw [HE.out]; rfl, rfl⟩)))), ⟨(NB.out _).1⟩, ⟨(NB.out _).2.1⟩, ⟨(NB.out _).2.2⟩⟩
          case measure => simp [RowKit.intOf]
      · have q0 : wr.cell? ⟨fb, 8, none⟩ = some (.string ⟨#[105, 110, 116]⟩) := (blk_cell FX.out 8).trans rfl
        have q1 : wr.cell? ⟨fb, 9, none⟩ = some (.pointer (some ⟨w0.heap.size, 6, none⟩)) := (blk_cell FX.out 9).trans rfl
        have q2 : wr.cell? ⟨w0.heap.size, 6, none⟩ = some (.bool s.f6) := (blk_cell BX.out 6).trans rfl
        have z : (line4 s).size ≤ 100 := by omega
        have n0 : w0.heap.size < wr.heap.size := World.block_lt_of_cell? _ _ q2
        have n1 : fb < wr.heap.size := World.block_lt_of_cell? _ _ q1
        have n2 : wr.heap.size ≠ w0.heap.size := by omega
        have n3 : w0.heap.size ≠ wr.heap.size := by omega
        have NB : Aside0 (∀ o, Bx s w0.heap.size (wr.alloc o) ∧ Fx w0.heap.size fb (wr.alloc o) ∧ Below w0.heap.size w0 (wr.alloc o)) := ⟨fun o => ⟨BX.out.below (below_alloc (Below.refl _ _) o), FX.out.below (below_alloc (Below.refl _ _) o), below_alloc HB.out o⟩⟩
        clear BX FX HB hsz
        have HE : Aside0 (line5 s = word s.f6 (line4 s) ⟨#[105, 110, 116]⟩) := ⟨rfl⟩
        obtain ⟨fb_, hfb⟩ : ∃ x, s.f6 = x := ⟨_, rfl⟩
        rw [hfb] at q2 HE
        clear hfb
        cases fb_
        · go_wp2
          go_roundw
          case rel => exact ⟨.inr (.inr (.inr (.inr (.inr (.inl ⟨by rw [HE.out]; rfl, rfl⟩))))), ⟨(NB.out _).1⟩, ⟨(NB.out _).2.1⟩, ⟨(NB.out _).2.2⟩⟩
          case measure => simp [RowKit.intOf]
        · go_wp2
          go_roundw
          case rel => exact ⟨.inr (.inr (.inr (.inr (.inr (.inl ⟨by rw [HE.out]; rfl, rfl⟩))))), ⟨(NB.out _).1⟩, ⟨(NB.out _).2.1⟩, ⟨(NB.out _).2.2⟩⟩
          case measure => simp [RowKit.intOf]
      · have q0 : wr.cell? ⟨fb, 10, none⟩ = some (.string ⟨#[99, 108, 101, 97, 114]⟩) := (blk_cell FX.out 10).trans rfl
        have q1 : wr.cell? ⟨fb, 11, none⟩ = some (.pointer (some ⟨w0.heap.size, 7, none⟩)) := (blk_cell FX.out 11).trans rfl
        have q2 : wr.cell? ⟨w0.heap.size, 7, none⟩ = some (.bool s.f7) := (blk_cell BX.out 7).trans rfl
        have z : (line5 s).size ≤ 100 := by omega
        have n0 : w0.heap.size < wr.heap.size := World.block_lt_of_cell? _ _ q2
        have n1 : fb < wr.heap.size := World.block_lt_of_cell? _ _ q1
        have n2 : wr.heap.size ≠ w0.heap.size := by omega
        have n3 : w0.heap.size ≠ wr.heap.size := by omega
        have NB : Aside0 (∀ o, Bx s w0.heap.size (wr.alloc o) ∧ Fx w0.heap.size fb (wr.alloc o) ∧ Below w0.heap.size w0 (wr.alloc o)) := ⟨fun o => ⟨BX.out.below (below_alloc (Below.refl _ _) o), FX.out.below (below_alloc (Below.refl _ _) o), below_alloc HB.out o⟩⟩
        clear BX FX HB hsz
        have HE : Aside0 (line6 s = word s.f7 (line5 s) ⟨#[99, 108, 101, 97, 114]⟩) := ⟨rfl⟩
        obtain ⟨fb_, hfb⟩ : ∃ x, s.f7 = x := ⟨_, rfl⟩
        rw [hfb] at q2 HE
        clear hfb
        cases fb_
        · go_wp2
          go_roundw
          case rel => exact ⟨.inr (.inr (.inr (.inr (.inr (.inr (.inl ⟨by rw [HE.out]; rfl, rfl⟩)))))), ⟨(NB.out _).1⟩, ⟨(NB.out _).2.1⟩, ⟨(NB.out _).2.2⟩⟩
          case measure => simp [RowKit.intOf]
        · go_wp2
          go_roundw
          case rel => exact ⟨.inr (.inr (.inr (.inr (.inr (.inr (.inl ⟨by rw [HE.out]; rfl, rfl⟩)))))), ⟨(NB.out _).1⟩, ⟨(NB.out _).2.1⟩, ⟨(NB.out _).2.2⟩⟩
          case measure => simp [RowKit.intOf]
      · have q0 : wr.cell? ⟨fb, 12, none⟩ = some (.string ⟨#[119, 97, 105, 116]⟩) := (blk_cell FX.out 12).trans rfl
        have q1 : wr.cell? ⟨fb, 13, none⟩ = some (.pointer (some ⟨w0.heap.size, 8, none⟩)) := (blk_cell FX.out 13).trans rfl
        have q2 : wr.cell? ⟨w0.heap.size, 8, none⟩ = some (.bool s.f8) := (blk_cell BX.out 8).trans rfl
        have z : (line6 s).size ≤ 100 := by omega
        have n0 : w0.heap.size < wr.heap.size := World.block_lt_of_cell? _ _ q2
        have n1 : fb < wr.heap.size := World.block_lt_of_cell? _ _ q1
        have n2 : wr.heap.size ≠ w0.heap.size := by omega
        have n3 : w0.heap.size ≠ wr.heap.size := by omega
        have NB : Aside0 (∀ o, Bx s w0.heap.size (wr.alloc o) ∧ Fx w0.heap.size fb (wr.alloc o) ∧ Below w0.heap.size w0 (wr.alloc o)) := ⟨fun o => ⟨BX.out.below (below_alloc (Below.refl _ _) o), FX.out.below (below_alloc (Below.refl _ _) o), below_alloc HB.out o⟩⟩
        clear BX FX HB hsz
        have HE : Aside0 (line7 s = word s.f8 (line6 s) ⟨#[119, 97, 105, 116]⟩) := ⟨rfl⟩
        obtain ⟨fb_, hfb⟩ : ∃ x, s.f8 = x := ⟨_, rfl⟩
        rw [hfb] at q2 HE
        clear hfb
        cases fb_
        · go_wp2
          go_roundw
          case rel => exact ⟨.inr (.inr (.inr (.inr (.inr (.inr (.inr (⟨by rw [HE.out]; rfl, rfl⟩))))))), ⟨(NB.out _).1⟩, ⟨(NB.out _).2.1⟩, ⟨(NB.out _).2.2⟩⟩
          case measure => simp [RowKit.intOf]
        · go_wp2
          go_roundw
          case rel => exact ⟨.inr (.inr (.inr (.inr (.inr (.inr (.inr (⟨by rw [HE.out]; rfl, rfl⟩))))))), ⟨(NB.out _).1⟩, ⟨(NB.out _).2.1⟩, ⟨(NB.out _).2.2⟩⟩
          case measure => simp [RowKit.intOf]
      · have c9 : wr.cell? ⟨w0.heap.size, 9, none⟩ = some (.int .u8 s.f9) := (blk_cell BX.out 9).trans rfl
        have z : (line7 s).size ≤ 100 := by omega
        clear hsz BX FX
        by_cases hk : s.f9 = 0
        · have k0 : (s.f9 == 0) = true := beq_iff_eq.mpr hk
          have k1 : (s.f9 != 0) = false := bne_eq_false_iff_eq.mpr hk
          have E := Aside0.mk (show lineB s = line7 s by unfold lineB; rw [if_pos hk])
          clear hk
          go_wp2
          go_ret
          exact ⟨by rw [E.out]; rfl, HB.out⟩
        · have k0 : (s.f9 == 0) = false := beq_eq_false_iff_ne.mpr hk
          have k1 : (s.f9 != 0) = true := bne_iff_ne.mpr hk
          have E := Aside0.mk (show lineB s = line7 s ++ ((⟨#[32, 98, 117, 115, 32]⟩ : ByteArray) ++ hexS2 s.f9) by unfold lineB; rw [if_neg hk])
          have b2 := hexS2_size s.f9
          clear hk
          go_wp2_with fail
          (with_reducible refine (hex2 s.f9 h4 h5 _).mono ?_)
          rintro e w2 ⟨rfl, hb⟩
          have B2 := Aside0.mk (below_step HB.out hb)
          clear hb
          go_wp2
          go_ret
          exact ⟨by rw [E.out]; rfl, B2.out⟩
end Go.Proofs.YtdjffafcmomalaaDoor.Scr
/- strings.Builder of the call's own: copyCheck and WriteString at this program, by the kit's laws on its cells. -/
set_option linter.unusedVariables false
set_option linter.unusedSimpArgs false
namespace Go.Proofs.YtdjffafcmomalaaDoor.Bld
open Go Go.RowKit

theorem info59 : (Tryd.prog.info? 59).map (·.size) = some 2 := by kernel_rfl
theorem lies59 : liesAt Tryd.prog Tryd.prog.depth 59 (2 / Tryd.prog.cellsOf 59) 0 59 1 = true := by kernel_rfl
theorem info5 : (Tryd.prog.info? 5).map (fun i => (i.zero, i.size, i.bytes)) = some (some (.int .u8 0), 1, 1) := by kernel_rfl

set_option maxHeartbeats 1000000 in
set_option maxRecDepth 100000 in
theorem copyCheck (B b : Nat) (bs : List Value) (w : World) (h : Lib.IsBuilder 59 5 B b bs w) :
    Calls Tryd.prog 51 #[.pointer (some ⟨b, 0, none⟩)] w fun e w' => e = .returned (.tuple #[]) ∧ Lib.BuilderAt 59 5 B b (.pointer (some ⟨b, 0, none⟩)) bs w' ∧ Below B w w' := by
  obtain ⟨j, hj, hjs⟩ := Option.map_eq_some_iff.1 info59
  rcases h with h | h
  · have h0 := h.cell0
    have hsh := h.shape
    have hfz := h.frozen0
    have r1 := Lib.run_to_unsafe (P := Tryd.prog) w ⟨b, 0, none⟩ Tryd.underlying56 Tryd.underlying97 hj (by rw [hjs]; decide) hsh (Nat.zero_lt_succ 1)
    have r2 := Lib.run_from_unsafe (P := Tryd.prog) w ⟨b, 0, none⟩ Tryd.underlying97 Tryd.underlying56 hj hsh lies59
    have HH := Lib.hid h
    clear h
    go_enter Tryd.func51, Tryd.ntmps51
    go_wp2
    rw [run_callFunc_extern Tryd.func68 (by kernel_rfl) (by kernel_rfl) (by kernel_rfl) (e := Extern.AbiNoEscape.same) (by kernel_rfl)]
    rw [Lib.run_noEscape]
    simp only [Result.andThen]
    rw [Oper.upon_value]
    go_wp2
    go_end0
    exact ⟨rfl, HH.out.used _, (Below.refl B w).setCell (p := ⟨b, 0, none⟩) HH.out.1 _⟩
  · have h0 := h.cell0
    have r1 := Lib.run_neq_ptr_same (P := Tryd.prog) w ⟨b, 0, none⟩ Tryd.underlying56 hj
    have HH := Lib.hid h
    clear h
    go_enter Tryd.func51, Tryd.ntmps51
    go_wp2
    go_end0
    exact ⟨rfl, HH.out, Below.refl B _⟩

set_option maxHeartbeats 2000000 in
set_option maxRecDepth 100000 in
theorem writeString (B b : Nat) (bs : List Value) (s : ByteArray) (w : World) (h : Lib.IsBuilder 59 5 B b bs w) (hlen : bs.length + s.size ≤ 140737488355328) (hBw : B ≤ w.heap.size) :
    Calls Tryd.prog 35 #[.pointer (some ⟨b, 0, none⟩), .string s] w fun e w' => e = .returned (.tuple #[.int .i64 s.size, .nilIface]) ∧ Lib.BuilderAt 59 5 B b (.pointer (some ⟨b, 0, none⟩)) (bs ++ Lib.strCells s) w' ∧ Below B w w' := by
  obtain ⟨i0, hi, hz0, hz1, hz2⟩ := info_parts info5
  have HH := Lib.hid h
  clear h
  go_enter Tryd.func35, Tryd.ntmps35
  go_wp2_with fail
  (with_reducible refine (copyCheck B b bs _ HH.out).mono ?_)
  rintro e w1 ⟨rfl, h1, hb1⟩
  obtain ⟨hB, v, hbk, hown, hne⟩ := h1
  have c0 : w1.cell? ⟨b, 0, none⟩ = some (.pointer (some ⟨b, 0, none⟩)) := by rw [Lib.cell_of_heap hbk]; rfl
  have c1 : w1.cell? ⟨b, 1, none⟩ = some v := by rw [Lib.cell_of_heap hbk]; rfl
  go_wp2_with (at_builtin; refine Lib.wpList_append_own_string _ rfl _ _ 57 9 rfl B 5 i0 Tryd.underlying57 Tryd.underlying9 hi hz0 hz1 hz2 _ _ _ rfl hown s rfl ?c3 ?c4 ?c5 ?_)
  case c3 => unfold maxLen; omega
  case c4 => omega
  case c5 => have := hb1.size; omega
  intro v' w2 hown' hgrow _
  have hlt : b < w1.heap.size := (Array.getElem?_eq_some_iff.1 hbk).1
  have hb2 : w2.heap[b]? = some (.cells #[.pointer (some ⟨b, 0, none⟩), v] 59 (0, 0)) := by
    rw [hgrow.block b hlt (fun e => hne e.symm)]
    exact hbk
  have d0 : w2.cell? ⟨b, 0, none⟩ = some (.pointer (some ⟨b, 0, none⟩)) := by rw [Lib.cell_of_heap hb2]; rfl
  have d1 : w2.cell? ⟨b, 1, none⟩ = some v := by rw [Lib.cell_of_heap hb2]; rfl
  have f1 : w2.frozen? ⟨b, 1, none⟩ = false := Lib.frozen_of_heap hb2 1
  obtain ⟨ao, n', cap, rfl⟩ : ∃ ao n' cap, v' = .slice ao n' cap := by
    rcases hown'.2 with ⟨hv, _⟩ | ⟨g, cap, cur, hv, _⟩
    · exact ⟨_, _, _, hv⟩
    · exact ⟨_, _, _, hv⟩
  go_wp2
  go_ret2
  refine ⟨rfl, ?_, ?_⟩
  · exact Lib.BuilderAt.put (T := 59) (e := 5) hB hb2 (bs' := bs ++ Lib.strCells s) (by simpa [Lib.strCells_length] using hown') (by decide)
  · exact (hb1.grown hgrow (by have := hb1.size; omega) (fun k hk => (hown.lt k hk).1)).setCell (p := ⟨b, 1, none⟩) hB _
end Go.Proofs.YtdjffafcmomalaaDoor.Bld
/- script.Print: a script as text. -/
set_option linter.unusedVariables false
set_option linter.unusedSimpArgs false
namespace Go.Proofs.YtdjffafcmomalaaDoor.Scr
open Go Go.RowKit
open Go.Proofs.YtdjffafcmomalaaDoorW.PrintWords Go.Proofs.YtdjffafcmomalaaDoor.PScr

def okS (s : S34) : Bool := decide (-9223372036854775808 ≤ s.f0) && decide (s.f0 ≤ 9223372036854775807) && decide (0 ≤ s.f1) && decide (s.f1 < 65536) && decide (0 ≤ s.f9) && decide (s.f9 < 256)
def printB (l : List S34) : List UInt8 := l.flatMap fun s => (lineB s).data.toList ++ [10]
theorem lineB_size (s : S34) (h : okS s = true) : (lineB s).size ≤ 100 := by
  simp only [okS, Bool.and_eq_true, decide_eq_true_eq] at h
  obtain ⟨⟨⟨⟨⟨h0, h1⟩, _⟩, _⟩, _⟩, _⟩ := h
  have := (line_sizes s (itoa_len _ h0 h1)).2.2.2.2.2.2.2
  unfold lineB
  split
  · omega
  · simp only [ByteArray.size_append, hexS2_size]
    have : (⟨#[32, 98, 117, 115, 32]⟩ : ByteArray).size = 5 := rfl
    omega
theorem printB_snoc (l : List S34) (s : S34) : printB (l ++ [s]) = printB l ++ ((lineB s).data.toList ++ [10]) := by simp [printB, List.flatMap_append]
theorem printB_len (l : List S34) (h : l.all okS = true) : (printB l).length ≤ 101 * l.length := by
  induction l with
  | nil => simp [printB]
  | cons x l ih =>
    rw [List.all_cons, Bool.and_eq_true] at h
    have h1 := lineB_size x h.1
    have h2 := ih h.2
    have e : printB (x :: l) = (lineB x).data.toList ++ [10] ++ printB l := rfl
    rw [e]
    simp only [List.length_append, List.length_cons, List.length_nil, Array.length_toList]
    have h3 : (lineB x).data.size ≤ 100 := h1
    omega

theorem bld_below {B b : Nat} {bs : List Value} {w w1 : World} (h : Lib.IsBuilder 59 5 B b bs w) (hb : Below w.heap.size w w1) : Lib.IsBuilder 59 5 B b bs w1 := by
  have key : ∀ {p : Value}, Lib.BuilderAt 59 5 B b p bs w → Lib.BuilderAt 59 5 B b p bs w1 := by
    rintro p ⟨hB, v, hbk, hown, hne⟩
    exact ⟨hB, v, (hb.block b (Array.getElem?_eq_some_iff.1 hbk).1).trans hbk, pw_own_below hown hb, hne⟩
  exact h.elim (fun x => .inl (key x)) (fun x => .inr (key x))
theorem bld_new (w : World) : Lib.IsBuilder 59 5 w.heap.size w.heap.size [] (w.alloc (.cells #[.pointer none, .slice none 0 0] 59)) :=
  .inl ⟨Nat.le_refl _, .slice none 0 0, heap_alloc_new w _, own_nil _ _ _ _, by simp [Value.ownBlock]⟩
theorem strCells_line (s : ByteArray) : Lib.strCells (s ++ (⟨#[10]⟩ : ByteArray)) = Lib.byteCells (s.data.toList ++ [10]) := by
  simp [Lib.strCells, Lib.byteCells]

theorem all_take {l : List S34} (h : l.all okS = true) (k : Nat) : (l.take k).all okS = true := by
  rw [List.all_eq_true] at h ⊢
  exact fun x hx => h x (List.mem_of_mem_take hx)

set_option maxRecDepth 100000 in
set_option maxHeartbeats 4000000 in
theorem print_ok (A : Option Addr) (c : Nat) (l : List S34) (w0 : World) (hr : Kd.C k34 w0 A l.length l) (hc : l.length ≤ c) (hok : l.all okS = true) (hch : script_Check.f 5000 l = some 0) (hlen : l.length ≤ 4096) (hG : GOk w0) (r : ByteArray) (x : Int) (hres : if (printB l).length > 65536 then r = ⟨#[]⟩ ∧ x = 2 else r = ⟨(printB l).toArray⟩ ∧ x = 0) :
    Calls Tryd.prog 21 #[.slice A l.length c] w0 fun e w' => e = .returned (.tuple #[.string r, .int .i64 x]) ∧ Below w0.heap.size w0 w' := by
  have HX := Aside0.mk hres
  clear hres
  have HR := Aside0.mk hr
  have HC := Aside0.mk hc
  have HG := Aside0.mk hG
  have OK := Aside0.mk hok
  have CH := Aside0.mk hch
  clear hr hc hG hok hch
  go_enter Tryd.func21, Tryd.ntmps21
  go_wp2_with fail
  (with_reducible refine (script_Check.calls 5000 A c l 0 _ HR.out HC.out CH.out).mono ?_)
  rintro e w1 ⟨rfl, hb⟩
  have B1 := Aside0.mk hb
  clear hb
  have hs1 : w0.heap.size ≤ w1.heap.size := B1.out.size
  have NB : Aside0 (Lib.IsBuilder 59 5 w1.heap.size w1.heap.size [] (w1.alloc (.cells #[.pointer none, .slice none 0 0] 59))) := ⟨bld_new w1⟩
  have B2 := Aside0.mk (below_alloc B1.out (.cells #[.pointer none, .slice none 0 0] 59))
  have HZ : Aside0 (w1.heap.size ≤ (w1.alloc (.cells #[.pointer none, .slice none 0 0] 59)).heap.size) := ⟨by simp⟩
  go_wp2
  go_loopw [15] (fun i wr => ∃ k : Nat, k ≤ l.length ∧ i = .int .i64 k ∧ Aside0 (Lib.IsBuilder 59 5 w1.heap.size w1.heap.size (Lib.byteCells (printB (l.take k))) wr ∧ Below w0.heap.size w0 wr ∧ w1.heap.size ≤ wr.heap.size)) (fun i _ => l.length - (RowKit.intOf i).toNat)
  case atStart => exact ⟨0, Nat.zero_le _, rfl, ⟨NB.out, B2.out, HZ.out⟩⟩
  case round =>
    clear NB B2 HZ
    obtain ⟨k, hk, rfl, HP⟩ := hrel
    by_cases hlt : k < l.length
    · obtain ⟨ad, e, q0, q1, q2, q3, q4, q5, q6, q7, q8, q9⟩ := at_T34 (Kd.C_below HR.out HP.out.2.1) (k : Int) (by omega) (by omega)
      cases e
      have hel : rd_T34 l (k : Int) = l[k] := by unfold rd_T34; simp [List.getD_eq_getElem?_getD, List.getElem?_eq_getElem hlt]
      have oks : okS (rd_T34 l (k : Int)) = true := by rw [hel]; exact List.all_eq_true.1 OK.out _ (List.getElem_mem hlt)
      have hsn : printB (l.take (k + 1)) = printB (l.take k) ++ ((lineB (rd_T34 l (k : Int))).data.toList ++ [10]) := by rw [List.take_succ_eq_append_getElem hlt, printB_snoc, hel]
      have hpl := printB_len (l.take k) (all_take OK.out k)
      have htl : (l.take k).length ≤ 4096 := by rw [List.length_take]; omega
      have hls := lineB_size _ oks
      simp only [okS, Bool.and_eq_true, decide_eq_true_eq] at oks
      obtain ⟨⟨⟨⟨⟨o0, o1⟩, o2⟩, o3⟩, o4⟩, o5⟩ := oks
      have SN := Aside0.mk hsn
      have PL := Aside0.mk hpl
      have TL := Aside0.mk htl
      clear hsn hpl htl hel
      obtain ⟨s, hs⟩ : ∃ s, s = rd_T34 l (k : Int) := ⟨_, rfl⟩
      rw [← hs] at q0 q1 q2 q3 q4 q5 q6 q7 q8 q9 hls o0 o1 o2 o3 o4 o5 SN
      clear hs
      have HBd : Aside0 (∀ o, Lib.IsBuilder 59 5 w1.heap.size w1.heap.size (Lib.byteCells (printB (l.take k))) (wr.alloc o) ∧ Below w0.heap.size w0 (wr.alloc o) ∧ w1.heap.size ≤ (wr.alloc o).heap.size) := ⟨fun o => ⟨bld_below HP.out.1 (below_alloc (Below.refl _ _) o), below_alloc HP.out.2.1 o, by simp; have := HP.out.2.2; omega⟩⟩
      clear HP
      simp only [Int.toNat_natCast] at q0 q1 q2 q3 q4 q5 q6 q7 q8 q9
      have i0 : (0 : Int) ≤ (k : Int) := by omega
      have i1 : (k : Int) < (l.length : Int) := by omega
      go_wp2_with fail
      (with_reducible refine (line_calls s _ o0 o1 o2 o3 o4 o5 (GOk.below HG.out (HBd.out _).2.1)).mono ?_)
      rintro e w2 ⟨rfl, hb⟩
      have IB := Aside0.mk (bld_below (HBd.out _).1 hb)
      have B3 := Aside0.mk (below_step (HBd.out _).2.1 hb)
      have Z3 := Aside0.mk (Nat.le_trans (HBd.out _).2.2 hb.size)
      clear hb HBd
      go_wp2_with fail
      have hz : (Lib.byteCells (printB (l.take k))).length + (lineB s ++ (⟨#[10]⟩ : ByteArray)).size ≤ 140737488355328 := by
        rw [Lib.byteCells_length, ByteArray.size_append]
        have := PL.out
        have := TL.out
        have : (⟨#[10]⟩ : ByteArray).size = 1 := rfl
        omega
      (with_reducible refine (Bld.writeString w1.heap.size w1.heap.size (Lib.byteCells (printB (l.take k))) (lineB s ++ (⟨#[10]⟩ : ByteArray)) w2 IB.out hz Z3.out).mono ?_)
      rintro e w3 ⟨rfl, hbd, hb⟩
      have HN : Aside0 (Lib.IsBuilder 59 5 w1.heap.size w1.heap.size (Lib.byteCells (printB (l.take (k + 1)))) w3 ∧ Below w0.heap.size w0 w3 ∧ w1.heap.size ≤ w3.heap.size) := by
        refine ⟨?_, B3.out.trans (hb.mono hs1), Nat.le_trans Z3.out hb.size⟩
        rw [strCells_line] at hbd
        rw [SN.out]
        right
        have e : Lib.byteCells (printB (l.take k) ++ ((lineB s).data.toList ++ [10])) = Lib.byteCells (printB (l.take k)) ++ Lib.byteCells ((lineB s).data.toList ++ [10]) := by simp [Lib.byteCells]
        rw [e]; exact hbd
      clear hbd hb IB B3 Z3 hz
      go_wp2
      go_roundw
      case rel => exact ⟨k + 1, by omega, by go_num, HN⟩
      case measure => simp [RowKit.intOf]; omega
    · obtain rfl : k = l.length := by omega
      have hp := HP.out
      rw [List.take_of_length_le (Nat.le_refl _)] at hp
      have HQ := Aside0.mk hp
      clear hp HP
      have hbl := Lib.byteCells_length (printB l)
      go_wp2_with fail
      (with_reducible refine (Tryd.Builder_Len w1.heap.size w1.heap.size (Lib.byteCells (printB l)) wr HQ.out.1).mono ?_)
      rintro e w2 ⟨rfl, hw⟩
      subst hw
      by_cases hbig : (printB l).length > 65536
      · have hx := HX.out
        rw [if_pos hbig] at hx
        obtain ⟨rfl, rfl⟩ := hx
        clear HX
        have hd : 65536 < (Lib.byteCells (printB l)).length := by omega
        go_wp2
        go_ret2
        exact ⟨rfl, HQ.out.2.1⟩
      · have hx := HX.out
        rw [if_neg hbig] at hx
        obtain ⟨rfl, rfl⟩ := hx
        clear HX
        have hd : ¬ 65536 < (Lib.byteCells (printB l)).length := by omega
        go_wp2_with fail
        (with_reducible refine (Tryd.Builder_String_any w1.heap.size w1.heap.size (printB l) w2 HQ.out.1 HQ.out.2.2).mono ?_)
        rintro e w3 ⟨rfl, hb⟩
        have B4 := Aside0.mk (HQ.out.2.1.trans (hb.mono hs1))
        clear hb
        go_wp2
        go_ret2
        exact ⟨rfl, B4.out⟩

set_option maxRecDepth 100000 in
set_option maxHeartbeats 4000000 in
theorem print_bad (A : Option Addr) (c : Nat) (l : List S34) (w0 : World) (hr : Kd.C k34 w0 A l.length l) (hc : l.length ≤ c) (x : Int) (hx : x ≠ 0) (hch : script_Check.f 5000 l = some x) :
    Calls Tryd.prog 21 #[.slice A l.length c] w0 fun e w' => e = .returned (.tuple #[.string ⟨#[]⟩, .int .i64 x]) ∧ Below w0.heap.size w0 w' := by
  have k1 : (x != 0) = true := bne_iff_ne.mpr hx
  have k0 : (x == 0) = false := beq_eq_false_iff_ne.mpr hx
  have HR := Aside0.mk hr
  have HC := Aside0.mk hc
  have CH := Aside0.mk hch
  clear hr hc hch hx
  go_enter Tryd.func21, Tryd.ntmps21
  go_wp2_with fail
  (with_reducible refine (script_Check.calls 5000 A c l x _ HR.out HC.out CH.out).mono ?_)
  rintro e w1 ⟨rfl, hb⟩
  have B1 := Aside0.mk hb
  clear hb
  go_wp2
  go_ret2
  exact ⟨rfl, B1.out⟩
end Go.Proofs.YtdjffafcmomalaaDoor.Scr
namespace Go.Proofs.YtdjffafcmomalaaDoor.PScr
open Go Go.RowKit
open Go.Proofs.YtdjffafcmomalaaDoorW.PrintWords
open Go.Proofs.YtdjffafcmomalaaDoor.Scr (GOk okS printB)

theorem check_len {l : List S34} (h : script_Check.f 5000 l = some 0) : l.length ≤ 4096 := by
  unfold script_Check.f script_Cycles.f at h
  by_cases c : (l.length : Int) > 4096
  · rw [if_pos c] at h; simp at h
  · omega

def script_Print.f (l : List S34) : Option (ByteArray × Int) :=
  if l.all okS = true then (script_Check.f 5000 l).bind fun e => if e = 0 then (if (printB l).length > 65536 then some (⟨#[]⟩, 2) else some (⟨(printB l).toArray⟩, 0)) else some (⟨#[]⟩, e) else none

theorem script_Print.calls (A0 : Option Addr) (c0 : Nat) (l0 : List S34) (r1 : ByteArray) (r2 : Int) (w : World) (hr0 : Kd.C k34 w A0 l0.length l0) (hc0 : l0.length ≤ c0) (h : script_Print.f l0 = some (r1, r2))
    (hG : GOk w := by first | exact HG.out | exact GOk.below HG.out HB.out | exact GOk.below HG.out (by repeat (first | (with_reducible first | exact HB.out | apply below_alloc | apply pw_below_drewN | apply below_drew1) | exact HB.out))) :
    Calls Tryd.prog 21 #[.slice A0 l0.length c0] w fun e w' => e = .returned (.tuple #[.string r1, .int .i64 r2]) ∧ Below w.heap.size w w' := by
  unfold script_Print.f at h
  by_cases hok : l0.all okS = true
  · rw [if_pos hok] at h
    obtain ⟨x, hx, h⟩ := Option.bind_eq_some_iff.1 h
    by_cases h0 : x = 0
    · subst h0
      rw [if_pos rfl] at h
      refine Scr.print_ok A0 c0 l0 w hr0 hc0 hok hx (check_len hx) hG r1 r2 ?_
      by_cases hb : (printB l0).length > 65536
      · rw [if_pos hb] at h ⊢; simp only [Option.some.injEq, Prod.mk.injEq] at h; exact ⟨h.1.symm, h.2.symm⟩
      · rw [if_neg hb] at h ⊢; simp only [Option.some.injEq, Prod.mk.injEq] at h; exact ⟨h.1.symm, h.2.symm⟩
    · rw [if_neg h0] at h
      simp only [Option.some.injEq, Prod.mk.injEq] at h
      obtain ⟨rfl, rfl⟩ := h
      exact Scr.print_bad A0 c0 l0 w hr0 hc0 x h0 hx
  · rw [if_neg hok] at h; cases h
end Go.Proofs.YtdjffafcmomalaaDoor.PScr
/- A slice of spans that came in, opened: a row, each span of its kinds. -/
set_option linter.unusedVariables false
set_option linter.unusedSimpArgs false
namespace Go.Proofs.YtdjffafcmomalaaDoor.Opens
open Go Go.ChangeShapes Go.WideShapes Go.RowKit
open Go.Proofs.YtdjffafcmomalaaDoorW.PrintWords Go.Proofs.YtdjffafcmomalaaDoor.PScr Go.Proofs.YtdjffafcmomalaaDoor.Scr

set_option maxRecDepth 100000 in
theorem list10 {α : Type} {l : List α} (h : l.length = 10) : ∃ a b c d e f g h i j, l = [a, b, c, d, e, f, g, h, i, j] := by
  match l, h with
  | [a, b, c, d, e, f, g, h, i, j], _ => exact ⟨a, b, c, d, e, f, g, h, i, j, rfl⟩

section
variable {H : Type} {enc : TypeId × Value → H} {w : World} {base : Nat} {spare : Nat → Bool} {held : Bool} {fuel : Nat} {cs : List Value} {x : DataW H × List MemPlace}

theorem u8_fits {n : Int} (h : (Lit.int .u8 n).wf = true) : 0 ≤ n ∧ n < 256 := by
  simp [Lit.wf] at h; have e1 : IntKind.u8.min = 0 := rfl; have e2 : IntKind.u8.max = 255 := rfl; omega
theorem u16_fits {n : Int} (h : (Lit.int .u16 n).wf = true) : 0 ≤ n ∧ n < 65536 := by
  simp [Lit.wf] at h; have e1 : IntKind.u16.min = 0 := rfl; have e2 : IntKind.u16.max = 65535 := rfl; omega
theorem i64_fits {n : Int} (h : (Lit.int .i64 n).wf = true) : -9223372036854775808 ≤ n ∧ n ≤ 9223372036854775807 := by
  simp [Lit.wf] at h; have e1 : IntKind.i64.min = -9223372036854775808 := rfl; have e2 : IntKind.i64.max = 9223372036854775807 := rfl; omega
theorem bool_open (h : DataW.trod enc Tryd.prog w base spare held fuel 4 cs = some x) : ∃ n, cs = [.bool n] := by
  obtain ⟨n, e, _⟩ := DataW.trod_bool Tryd.underlying4 h
  exact ⟨n, e⟩

set_option maxRecDepth 100000 in
theorem span_open (h : DataW.trod enc Tryd.prog w base spare held fuel 34 cs = some x) :
    ∃ s : S34, okS s = true ∧ cs = [.int .i64 s.f0, .int .u16 s.f1, .bool s.f2, .bool s.f3, .bool s.f4, .bool s.f5, .bool s.f6, .bool s.f7, .bool s.f8, .int .u8 s.f9] := by
  obtain ⟨xs, n, _, _, hl, hx, hf⟩ := DataW.trod_struct Tryd.underlying34 h
  rw [show Tryd.prog.cellsOf 34 = 10 by kernel_rfl] at hl
  obtain ⟨c0, c1, c2, c3, c4, c5, c6, c7, c8, c9, rfl⟩ : ∃ c0 c1 c2 c3 c4 c5 c6 c7 c8 c9, cs = [c0, c1, c2, c3, c4, c5, c6, c7, c8, c9] := list10 hl
  obtain ⟨y0, y1, y2, y3, y4, y5, y6, y7, y8, y9, rfl⟩ : ∃ y0 y1 y2 y3 y4 y5 y6 y7 y8 y9, xs = [y0, y1, y2, y3, y4, y5, y6, y7, y8, y9] := list10 hx
  have k3 : Tryd.prog.cellsOf 3 = 1 := by kernel_rfl
  have k32 : Tryd.prog.cellsOf 32 = 1 := by kernel_rfl
  have k4 : Tryd.prog.cellsOf 4 = 1 := by kernel_rfl
  have k5 : Tryd.prog.cellsOf 5 = 1 := by kernel_rfl
  have f0 : DataW.trod enc Tryd.prog w base spare held n 3 [c0] = some y0 := by have := hf 0 _ rfl; simpa [k3, k32, k4, k5] using this
  have f1 : DataW.trod enc Tryd.prog w base spare held n 32 [c1] = some y1 := by have := hf 1 _ rfl; simpa [k3, k32, k4, k5] using this
  have f2 : DataW.trod enc Tryd.prog w base spare held n 4 [c2] = some y2 := by have := hf 2 _ rfl; simpa [k3, k32, k4, k5] using this
  have f3 : DataW.trod enc Tryd.prog w base spare held n 4 [c3] = some y3 := by have := hf 3 _ rfl; simpa [k3, k32, k4, k5] using this
  have f4 : DataW.trod enc Tryd.prog w base spare held n 4 [c4] = some y4 := by have := hf 4 _ rfl; simpa [k3, k32, k4, k5] using this
  have f5 : DataW.trod enc Tryd.prog w base spare held n 4 [c5] = some y5 := by have := hf 5 _ rfl; simpa [k3, k32, k4, k5] using this
  have f6 : DataW.trod enc Tryd.prog w base spare held n 4 [c6] = some y6 := by have := hf 6 _ rfl; simpa [k3, k32, k4, k5] using this
  have f7 : DataW.trod enc Tryd.prog w base spare held n 4 [c7] = some y7 := by have := hf 7 _ rfl; simpa [k3, k32, k4, k5] using this
  have f8 : DataW.trod enc Tryd.prog w base spare held n 4 [c8] = some y8 := by have := hf 8 _ rfl; simpa [k3, k32, k4, k5] using this
  have f9 : DataW.trod enc Tryd.prog w base spare held n 5 [c9] = some y9 := by have := hf 9 _ rfl; simpa [k3, k32, k4, k5] using this
  obtain ⟨s0, e0, _, b0⟩ := DataW.trod_int Tryd.underlying3 f0
  obtain ⟨s1, e1, _, b1⟩ := DataW.trod_int Tryd.underlying32 f1
  obtain ⟨s2, e2⟩ := bool_open f2
  obtain ⟨s3, e3⟩ := bool_open f3
  obtain ⟨s4, e4⟩ := bool_open f4
  obtain ⟨s5, e5⟩ := bool_open f5
  obtain ⟨s6, e6⟩ := bool_open f6
  obtain ⟨s7, e7⟩ := bool_open f7
  obtain ⟨s8, e8⟩ := bool_open f8
  obtain ⟨s9, e9, _, b9⟩ := DataW.trod_int Tryd.underlying5 f9
  simp at e0 e1 e2 e3 e4 e5 e6 e7 e8 e9
  subst e0 e1 e2 e3 e4 e5 e6 e7 e8 e9
  have b0 := i64_fits b0
  have b1 := u16_fits b1
  have b9 := u8_fits b9
  refine ⟨⟨s0, s1, s2, s3, s4, s5, s6, s7, s8, s9⟩, ?_, rfl⟩
  simp only [okS, Bool.and_eq_true, decide_eq_true_eq]
  omega

theorem C_open {P : Program} {α : Type} (d : Kd α) [Inhabited α] (ok : α → Prop) {t e : TypeId} (ht : P.underlying t = some (.slice e)) (hsz : P.cellsOf e = d.sz)
    (hel : ∀ n cs y, DataW.trod enc P w base spare held n e cs = some y → ∃ p, ok p ∧ d.K w p cs) (h : DataW.trod enc P w base spare held fuel t cs = some x) :
    ∃ (A : Option Addr) (c : Nat) (l : List α), cs = [.slice A l.length c] ∧ d.C w A l.length l ∧ l.length ≤ c ∧ ∀ p ∈ l, ok p := by
  rcases Deep.open_slice ht h with ⟨rfl, _⟩ | ⟨a, len, c, m, n, D, Pl, rfl, _, hl, hm, hmm, _, hv⟩
  · exact ⟨none, 0, [], rfl, Kd.C_nil _ _, Nat.le_refl _, fun _ h => by cases h⟩
  · have hlm : len ≤ m := by rw [hmm]; split <;> omega
    have each : ∀ i, i < len → ∃ q : α × List Value, w.cells? base (a.add (i * P.cellsOf e)) (P.cellsOf e) = some q.2 ∧ ok q.1 ∧ d.K w q.1 q.2 := by
      intro i hi
      obtain ⟨cs', h1, h2⟩ := hv i (by omega)
      obtain ⟨p, h0, hp⟩ := hel _ _ _ h2
      exact ⟨(p, cs'), h1, h0, hp⟩
    obtain ⟨q, hq⟩ := Deep.choose_lt (α := α × List Value) each
    have hlen : ((List.range len).map fun i => (q i).1).length = len := by simp
    refine ⟨some a, c, (List.range len).map fun i => (q i).1, by rw [hlen], ?_, by omega, ?_⟩
    · rw [hlen]
      refine ⟨hlen, by have := hm; simp only [maxLen] at this; omega, fun _ => ⟨a, rfl, fun j p hj => ?_⟩⟩
      have hjl : j < len := by have := (List.getElem?_eq_some_iff.mp hj).1; omega
      rw [List.getElem?_map, List.getElem?_range hjl] at hj
      simp only [Option.map_some, Option.some.injEq] at hj
      subst hj
      obtain ⟨h1, _, h2⟩ := hq j hjl
      obtain ⟨_, hcl, hcell⟩ := World.cells?_some h1
      refine ⟨(q j).2, by rw [hcl, hsz], h2, fun i u hu => ?_⟩
      have hi := (List.getElem?_eq_some_iff.mp hu).1
      have := hcell i (by omega)
      rw [Deep.add_add, hsz] at this
      rw [this, hu]
    · intro p hp
      obtain ⟨i, hi, rfl⟩ := List.mem_map.1 hp
      exact (hq i (List.mem_range.1 hi)).2.1

theorem spans_open (h : DataW.trod enc Tryd.prog w base spare held fuel 23 cs = some x) :
    ∃ (A : Option Addr) (c : Nat) (l : List S34), cs = [.slice A l.length c] ∧ Kd.C k34 w A l.length l ∧ l.length ≤ c ∧ l.all okS = true := by
  haveI : Inhabited S34 := ⟨z34⟩
  obtain ⟨A, c, l, h1, h2, h3, h4⟩ := C_open k34 (fun s => okS s = true) Tryd.underlying23 (by kernel_rfl) (fun n cs y hy => by
    obtain ⟨s, hs, rfl⟩ := span_open hy
    exact ⟨s, hs, k34_mk w s⟩) h
  exact ⟨A, c, l, h1, h2, h3, List.all_eq_true.2 h4⟩
end
end Go.Proofs.YtdjffafcmomalaaDoor.Opens
