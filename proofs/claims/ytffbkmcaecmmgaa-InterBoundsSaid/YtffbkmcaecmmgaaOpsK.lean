/- The law vesperlaw20.InterBounds (what Bound says of any order) answers true, whatever lies in memory; what came in reads as it did. No condition. -/
import Derived.Test.YtffbkmcaecmmgaaRows
import Derived.Test.YtffbkmcaecmmgaaOpsRows
import Derived.Test.YtffbkmcaecmmgaaOpsU
import Derived.WalkKit
import Derived.ProofKit
import Derived.OpenShut
import Derived.ChangeOld
import Derived.Below
import Derived.SizedLaws
set_option linter.unusedVariables false
set_option linter.unusedSimpArgs false
namespace Go.Proofs.Ytffbkmcaecmmgaa.Ops
open Go Go.RowKit
open Go.Proofs.YtffbkmcaecmmgaaW.PrintWords

theorem rows_said : RowsSaid := by
  intro w
  refine (rows_calls0 w).mono ?_
  rintro e w' ⟨rfl, rfl⟩
  have hb1 := allocs_below parts (five w) (five w) (Below.refl _ _)
  rw [← fin_parts] at hb1
  have hb2 := below_alloc hb1 (.cells (rowCells (five w)) 44)
  refine ⟨_, rfl, rows_at w.heap.size (five w) _ (by rw [five_size]; omega) (heap_alloc_new _ _) (fun k c hk => ?_), below_step (below_five w) hb2⟩
  have h := allocs_at parts (five w) k c hk
  rw [← fin_parts] at h
  exact ((below_alloc (Below.refl (fin29 (five w)).heap.size _) _).block _ (Array.getElem?_eq_some_iff.1 h).1).trans h
end Go.Proofs.Ytffbkmcaecmmgaa.Ops
namespace Go.Proofs.Ytffbkmcaecmmgaa.BoundsK
open Go Go.ChangeShapes Go.WideShapes Go.ChangeAt Go.RowKit Go.Proofs.Ytffbkmcaecmmgaa.Ops

theorem own : ownKnob Try.prog.godebug = none := by kernel_rfl
theorem laidOut : laidOutB Try.prog = true := by kernel_rfl
section
variable {H : Type} {enc : TypeId × Value → H} {w : World} {base : Nat} {spare : Nat → Bool} {held : Bool} {fuel : Nat} {cs : List Value} {x : DataW H × List MemPlace}
theorem u8_fits {n : Int} (h : (Lit.int .u8 n).wf = true) : 0 ≤ n ∧ n < 256 := by
  simp [Lit.wf] at h; have e1 : IntKind.u8.min = 0 := rfl; have e2 : IntKind.u8.max = 255 := rfl; omega
theorem u16_fits {n : Int} (h : (Lit.int .u16 n).wf = true) : 0 ≤ n ∧ n < 65536 := by
  simp [Lit.wf] at h; have e1 : IntKind.u16.min = 0 := rfl; have e2 : IntKind.u16.max = 65535 := rfl; omega
theorem list6 {α : Type} {l : List α} (h : l.length = 6) : ∃ a b c d e f, l = [a, b, c, d, e, f] := by
  match l, h with
  | [a, b, c, d, e, f], _ => exact ⟨a, b, c, d, e, f, rfl⟩
set_option maxRecDepth 100000 in
theorem order_open (h : DataW.trod enc Try.prog w base spare held fuel 25 cs = some x) :
    ∃ o : Ord, o.Ok ∧ cs = [.int .u8 o.op, .int .u8 o.x, .int .u8 o.y, .int .u8 o.n, .int .u8 o.b, .int .u16 o.a] := by
  obtain ⟨xs, n, _, _, hl, hx, hf⟩ := DataW.trod_struct Try.underlying25 h
  rw [show Try.prog.cellsOf 25 = 6 by kernel_rfl] at hl
  obtain ⟨c0, c1, c2, c3, c4, c5, rfl⟩ : ∃ c0 c1 c2 c3 c4 c5, cs = [c0, c1, c2, c3, c4, c5] := list6 hl
  obtain ⟨y0, y1, y2, y3, y4, y5, rfl⟩ : ∃ y0 y1 y2 y3 y4 y5, xs = [y0, y1, y2, y3, y4, y5] := list6 hx
  have k22 : Try.prog.cellsOf 22 = 1 := by kernel_rfl
  have k5 : Try.prog.cellsOf 5 = 1 := by kernel_rfl
  have k23 : Try.prog.cellsOf 23 = 1 := by kernel_rfl
  have f0 : DataW.trod enc Try.prog w base spare held n 22 [c0] = some y0 := by have := hf 0 _ rfl; simpa [k22, k5, k23] using this
  have f1 : DataW.trod enc Try.prog w base spare held n 5 [c1] = some y1 := by have := hf 1 _ rfl; simpa [k22, k5, k23] using this
  have f2 : DataW.trod enc Try.prog w base spare held n 5 [c2] = some y2 := by have := hf 2 _ rfl; simpa [k22, k5, k23] using this
  have f3 : DataW.trod enc Try.prog w base spare held n 5 [c3] = some y3 := by have := hf 3 _ rfl; simpa [k22, k5, k23] using this
  have f4 : DataW.trod enc Try.prog w base spare held n 5 [c4] = some y4 := by have := hf 4 _ rfl; simpa [k22, k5, k23] using this
  have f5 : DataW.trod enc Try.prog w base spare held n 23 [c5] = some y5 := by have := hf 5 _ rfl; simpa [k22, k5, k23] using this
  obtain ⟨n0, e0, _, z0⟩ := DataW.trod_int Try.underlying22 f0
  cases e0
  obtain ⟨n1, e1, _, z1⟩ := DataW.trod_int Try.underlying5 f1
  cases e1
  obtain ⟨n2, e2, _, z2⟩ := DataW.trod_int Try.underlying5 f2
  cases e2
  obtain ⟨n3, e3, _, z3⟩ := DataW.trod_int Try.underlying5 f3
  cases e3
  obtain ⟨n4, e4, _, z4⟩ := DataW.trod_int Try.underlying5 f4
  cases e4
  obtain ⟨n5, e5, _, z5⟩ := DataW.trod_int Try.underlying23 f5
  cases e5
  exact ⟨⟨n0, n1, n2, n3, n4, n5⟩, ⟨(u8_fits z0).1, (u8_fits z0).2, (u8_fits z1).1, (u8_fits z1).2, (u8_fits z2).1, (u8_fits z2).2, (u8_fits z3).1, (u8_fits z3).2, (u8_fits z4).1, (u8_fits z4).2, (u16_fits z5).1, (u16_fits z5).2⟩, rfl⟩
end
set_option maxRecDepth 100000 in
theorem lifted (os : Os) (started : os.Started) (H : Type) (enc : TypeId × Value → H) :
    ReturnsInHanded {} Try.checked os 3 .any (Rows.interBoundsSpec.pre6 enc Try.prog Try.f3 Rows.interBoundsRow.domain false) (Rows.interBoundsSpec.post enc Try.prog Try.f3 false true false false) := by
  refine returnsInHanded_of_change_sized (C := Try.checked) own started (by kernel_rfl) Try.func3
    (ChangeSpec.witness6 (enc := enc) (C := Try.checked) false ⟨#[], #[.agg #[.int .u8 0, .int .u8 0, .int .u8 0, .int .u8 0, .int .u8 0, .int .u16 0], .agg #[.int .u8 0, .int .u8 0, .int .u8 0, .int .u8 0, .int .u8 0, .int .u16 0]], []⟩ 8 (by kernel_rfl) (by kernel_rfl) (by kernel_rfl) (by kernel_rfl)) ?_
  intro W base args ds gs before hval0 hW hcnd hsz0 _
  have hval : ∀ (j : Nat) t v, Try.f3.params[j]? = some t → args[j]? = some v → Value.okWide Try.prog W .any base t v := hval0
  have hW' := hW
  obtain ⟨p, q, hA0, hV, rfl, hfz, hnd⟩ := hW
  have hA : DataW.TrodAll enc Try.prog W 0 (fun _ => true) true Try.f3.params.toList args.toList ds p := hA0
  rw [Try.params3] at hA hval
  obtain ⟨v0, vs0, d0, ds0, p0, q0, hargs, rfl, rfl, h0, r0⟩ := trodAll_cons hA
  obtain ⟨v1, vs1, d1, ds1, p1, q1, rfl, rfl, rfl, h1, r1⟩ := trodAll_cons r0
  obtain ⟨rfl, rfl, rfl⟩ := trodAll_nil r1
  obtain rfl : args = #[v0, v1] := by cases args; simp_all
  obtain ⟨rfl, rfl⟩ := trodVars_none hV
  have k0 := h0
  have lt0 : ∀ x ∈ p0, x.block < W.heap.size := by obtain ⟨m, hm⟩ := k0; exact DataW.trod_lt m _ _ _ hm
  have k1 := h1
  have lt1 : ∀ x ∈ p1, x.block < W.heap.size := by obtain ⟨m, hm⟩ := k1; exact DataW.trod_lt m _ _ _ hm
  obtain ⟨c0, rfl, _⟩ := okWide_struct Try.underlying25 (hval 0 25 v0 rfl rfl)
  obtain ⟨c1, rfl, _⟩ := okWide_struct Try.underlying25 (hval 1 25 v1 rfl rfl)
  obtain ⟨f0, g0⟩ := h0
  obtain ⟨f1, g1⟩ := h1
  obtain ⟨o, ho, e0⟩ := order_open g0
  obtain ⟨o', ho', e1⟩ := order_open g1
  obtain rfl : c0 = #[.int .u8 o.op, .int .u8 o.x, .int .u8 o.y, .int .u8 o.n, .int .u8 o.b, .int .u16 o.a] := by cases c0; simpa [Value.cells] using e0
  obtain rfl : c1 = #[.int .u8 o'.op, .int .u8 o'.x, .int .u8 o'.y, .int .u8 o'.n, .int .u8 o'.b, .int .u16 o'.a] := by cases c1; simpa [Value.cells] using e1
  clear hA0 hval0 hsz0
  refine (law_calls rows_said ref_said o o' ho ho' W).mono fun e W' ⟨he, bel⟩ => ?_
  subst he
  exact ⟨_, rfl, _, _, _, [], _, [], hW', trodAll_mk1 (shut_bool Try.underlying4 _), (trodAll_cons_mk (Below.trod laidOut (by kernel_rfl) (of_decide_eq_true (by kernel_rfl)) k0 bel lt0) (trodAll_cons_mk (Below.trod laidOut (by kernel_rfl) (of_decide_eq_true (by kernel_rfl)) k1 bel lt1) trodAll_mk0)), rfl, bel.frame _, fun h => by cases h⟩
theorem over : Rows.interBoundsRow.holds Try.pinned (OpenSpec.ofChange Rows.interBoundsSpec) :=
  OpenClaim.holds_of_wide 3 Try.f3 rfl rfl rfl rfl rfl rfl rfl ⟨rfl, rfl, rfl, rfl, rfl⟩ rfl rfl rfl rfl rfl (by kernel_rfl) Try.func3 (by kernel_rfl)
    (of_decide_eq_true (by kernel_rfl)) (by unfold Func.isWrapper; first | (rw [if_pos (by decide +kernel)]; kernel_rfl) | (rw [if_neg (by decide +kernel)]; exact ⟨rfl, rfl⟩))
    (fun os started H enc _ => lifted os started H enc)
end Go.Proofs.Ytffbkmcaecmmgaa.BoundsK
namespace Go.Proofs.Ytffbkmcaecmmgaa
theorem interBounds_holds : Rows.InterBoundsSaid := BoundsK.over
#print axioms interBounds_holds
end Go.Proofs.Ytffbkmcaecmmgaa
