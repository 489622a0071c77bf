/- A slice of spans that came in, opened: a row, each span of its kinds. -/
import Derived.Test.YtdjffafcmomalaaDoorScrPrint
import Derived.ProofKit
import Derived.OpenShut
import Derived.WalkKit
import Derived.Deep.SlicePairs
import Derived.Lib.SmallJoins
set_option linter.unusedVariables false
set_option linter.unusedSimpArgs false
namespace Go.Proofs.YtdjffafcmomalaaDoor.Opens
open Go Go.ChangeShapes Go.WideShapes Go.RowKit
open Go.Proofs.YtdjffafcmomalaaDoorW.PrintWords Go.Proofs.YtdjffafcmomalaaDoor.PScr Go.Proofs.YtdjffafcmomalaaDoor.Scr

set_option maxRecDepth 100000 in
theorem list10 {α : Type} {l : List α} (h : l.length = 10) : ∃ a b c d e f g h i j, l = [a, b, c, d, e, f, g, h, i, j] := by
  match l, h with
  | [a, b, c, d, e, f, g, h, i, j], _ => exact ⟨a, b, c, d, e, f, g, h, i, j, rfl⟩

section
variable {H : Type} {enc : TypeId × Value → H} {w : World} {base : Nat} {spare : Nat → Bool} {held : Bool} {fuel : Nat} {cs : List Value} {x : DataW H × List MemPlace}

theorem u8_fits {n : Int} (h : (Lit.int .u8 n).wf = true) : 0 ≤ n ∧ n < 256 := by
  simp [Lit.wf] at h; have e1 : IntKind.u8.min = 0 := rfl; have e2 : IntKind.u8.max = 255 := rfl; omega
theorem u16_fits {n : Int} (h : (Lit.int .u16 n).wf = true) : 0 ≤ n ∧ n < 65536 := by
  simp [Lit.wf] at h; have e1 : IntKind.u16.min = 0 := rfl; have e2 : IntKind.u16.max = 65535 := rfl; omega
theorem i64_fits {n : Int} (h : (Lit.int .i64 n).wf = true) : -9223372036854775808 ≤ n ∧ n ≤ 9223372036854775807 := by
  simp [Lit.wf] at h; have e1 : IntKind.i64.min = -9223372036854775808 := rfl; have e2 : IntKind.i64.max = 9223372036854775807 := rfl; omega
theorem bool_open (h : DataW.trod enc Tryd.prog w base spare held fuel 4 cs = some x) : ∃ n, cs = [.bool n] := by
  obtain ⟨n, e, _⟩ := DataW.trod_bool Tryd.underlying4 h
  exact ⟨n, e⟩

set_option maxRecDepth 100000 in
theorem span_open (h : DataW.trod enc Tryd.prog w base spare held fuel 34 cs = some x) :
    ∃ s : S34, okS s = true ∧ cs = [.int .i64 s.f0, .int .u16 s.f1, .bool s.f2, .bool s.f3, .bool s.f4, .bool s.f5, .bool s.f6, .bool s.f7, .bool s.f8, .int .u8 s.f9] := by
  obtain ⟨xs, n, _, _, hl, hx, hf⟩ := DataW.trod_struct Tryd.underlying34 h
  rw [show Tryd.prog.cellsOf 34 = 10 by kernel_rfl] at hl
  obtain ⟨c0, c1, c2, c3, c4, c5, c6, c7, c8, c9, rfl⟩ : ∃ c0 c1 c2 c3 c4 c5 c6 c7 c8 c9, cs = [c0, c1, c2, c3, c4, c5, c6, c7, c8, c9] := list10 hl
  obtain ⟨y0, y1, y2, y3, y4, y5, y6, y7, y8, y9, rfl⟩ : ∃ y0 y1 y2 y3 y4 y5 y6 y7 y8 y9, xs = [y0, y1, y2, y3, y4, y5, y6, y7, y8, y9] := list10 hx
  have k3 : Tryd.prog.cellsOf 3 = 1 := by kernel_rfl
  have k32 : Tryd.prog.cellsOf 32 = 1 := by kernel_rfl
  have k4 : Tryd.prog.cellsOf 4 = 1 := by kernel_rfl
  have k5 : Tryd.prog.cellsOf 5 = 1 := by kernel_rfl
  have f0 : DataW.trod enc Tryd.prog w base spare held n 3 [c0] = some y0 := by have := hf 0 _ rfl; simpa [k3, k32, k4, k5] using this
  have f1 : DataW.trod enc Tryd.prog w base spare held n 32 [c1] = some y1 := by have := hf 1 _ rfl; simpa [k3, k32, k4, k5] using this
  have f2 : DataW.trod enc Tryd.prog w base spare held n 4 [c2] = some y2 := by have := hf 2 _ rfl; simpa [k3, k32, k4, k5] using this
  have f3 : DataW.trod enc Tryd.prog w base spare held n 4 [c3] = some y3 := by have := hf 3 _ rfl; simpa [k3, k32, k4, k5] using this
  have f4 : DataW.trod enc Tryd.prog w base spare held n 4 [c4] = some y4 := by have := hf 4 _ rfl; simpa [k3, k32, k4, k5] using this
  have f5 : DataW.trod enc Tryd.prog w base spare held n 4 [c5] = some y5 := by have := hf 5 _ rfl; simpa [k3, k32, k4, k5] using this
  have f6 : DataW.trod enc Tryd.prog w base spare held n 4 [c6] = some y6 := by have := hf 6 _ rfl; simpa [k3, k32, k4, k5] using this
  have f7 : DataW.trod enc Tryd.prog w base spare held n 4 [c7] = some y7 := by have := hf 7 _ rfl; simpa [k3, k32, k4, k5] using this
  have f8 : DataW.trod enc Tryd.prog w base spare held n 4 [c8] = some y8 := by have := hf 8 _ rfl; simpa [k3, k32, k4, k5] using this
  have f9 : DataW.trod enc Tryd.prog w base spare held n 5 [c9] = some y9 := by have := hf 9 _ rfl; simpa [k3, k32, k4, k5] using this
  obtain ⟨s0, e0, _, b0⟩ := DataW.trod_int Tryd.underlying3 f0
  obtain ⟨s1, e1, _, b1⟩ := DataW.trod_int Tryd.underlying32 f1
  obtain ⟨s2, e2⟩ := bool_open f2
  obtain ⟨s3, e3⟩ := bool_open f3
  obtain ⟨s4, e4⟩ := bool_open f4
  obtain ⟨s5, e5⟩ := bool_open f5
  obtain ⟨s6, e6⟩ := bool_open f6
  obtain ⟨s7, e7⟩ := bool_open f7
  obtain ⟨s8, e8⟩ := bool_open f8
  obtain ⟨s9, e9, _, b9⟩ := DataW.trod_int Tryd.underlying5 f9
  simp at e0 e1 e2 e3 e4 e5 e6 e7 e8 e9
  subst e0 e1 e2 e3 e4 e5 e6 e7 e8 e9
  have b0 := i64_fits b0
  have b1 := u16_fits b1
  have b9 := u8_fits b9
  refine ⟨⟨s0, s1, s2, s3, s4, s5, s6, s7, s8, s9⟩, ?_, rfl⟩
  simp only [okS, Bool.and_eq_true, decide_eq_true_eq]
  omega

theorem C_open {P : Program} {α : Type} (d : Kd α) [Inhabited α] (ok : α → Prop) {t e : TypeId} (ht : P.underlying t = some (.slice e)) (hsz : P.cellsOf e = d.sz)
    (hel : ∀ n cs y, DataW.trod enc P w base spare held n e cs = some y → ∃ p, ok p ∧ d.K w p cs) (h : DataW.trod enc P w base spare held fuel t cs = some x) :
    ∃ (A : Option Addr) (c : Nat) (l : List α), cs = [.slice A l.length c] ∧ d.C w A l.length l ∧ l.length ≤ c ∧ ∀ p ∈ l, ok p := by
  rcases Deep.open_slice ht h with ⟨rfl, _⟩ | ⟨a, len, c, m, n, D, Pl, rfl, _, hl, hm, hmm, _, hv⟩
  · exact ⟨none, 0, [], rfl, Kd.C_nil _ _, Nat.le_refl _, fun _ h => by cases h⟩
  · have hlm : len ≤ m := by rw [hmm]; split <;> omega
    have each : ∀ i, i < len → ∃ q : α × List Value, w.cells? base (a.add (i * P.cellsOf e)) (P.cellsOf e) = some q.2 ∧ ok q.1 ∧ d.K w q.1 q.2 := by
      intro i hi
      obtain ⟨cs', h1, h2⟩ := hv i (by omega)
      obtain ⟨p, h0, hp⟩ := hel _ _ _ h2
      exact ⟨(p, cs'), h1, h0, hp⟩
    obtain ⟨q, hq⟩ := Deep.choose_lt (α := α × List Value) each
    have hlen : ((List.range len).map fun i => (q i).1).length = len := by simp
    refine ⟨some a, c, (List.range len).map fun i => (q i).1, by rw [hlen], ?_, by omega, ?_⟩
    · rw [hlen]
      refine ⟨hlen, by have := hm; simp only [maxLen] at this; omega, fun _ => ⟨a, rfl, fun j p hj => ?_⟩⟩
      have hjl : j < len := by have := (List.getElem?_eq_some_iff.mp hj).1; omega
      rw [List.getElem?_map, List.getElem?_range hjl] at hj
      simp only [Option.map_some, Option.some.injEq] at hj
      subst hj
      obtain ⟨h1, _, h2⟩ := hq j hjl
      obtain ⟨_, hcl, hcell⟩ := World.cells?_some h1
      refine ⟨(q j).2, by rw [hcl, hsz], h2, fun i u hu => ?_⟩
      have hi := (List.getElem?_eq_some_iff.mp hu).1
      have := hcell i (by omega)
      rw [Deep.add_add, hsz] at this
      rw [this, hu]
    · intro p hp
      obtain ⟨i, hi, rfl⟩ := List.mem_map.1 hp
      exact (hq i (List.mem_range.1 hi)).2.1

theorem spans_open (h : DataW.trod enc Tryd.prog w base spare held fuel 23 cs = some x) :
    ∃ (A : Option Addr) (c : Nat) (l : List S34), cs = [.slice A l.length c] ∧ Kd.C k34 w A l.length l ∧ l.length ≤ c ∧ l.all okS = true := by
  haveI : Inhabited S34 := ⟨z34⟩
  obtain ⟨A, c, l, h1, h2, h3, h4⟩ := C_open k34 (fun s => okS s = true) Tryd.underlying23 (by kernel_rfl) (fun n cs y hy => by
    obtain ⟨s, hs, rfl⟩ := span_open hy
    exact ⟨s, hs, k34_mk w s⟩) h
  exact ⟨A, c, l, h1, h2, h3, List.all_eq_true.2 h4⟩
end
end Go.Proofs.YtdjffafcmomalaaDoor.Opens
