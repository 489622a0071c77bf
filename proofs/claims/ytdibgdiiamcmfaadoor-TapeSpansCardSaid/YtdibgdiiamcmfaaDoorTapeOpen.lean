/- What came in, opened: bytes, waves, spans, and the law's own struct of bytes and waves. -/
import Derived.Test.YtdibgdiiamcmfaaDoorPTapex0
import Derived.ProofKit
import Derived.OpenShut
import Derived.WalkKit
import Derived.Deep.SlicePairs
import Derived.Lib.SmallJoins
set_option linter.unusedVariables false
set_option linter.unusedSimpArgs false
namespace Go.Proofs.YtdibgdiiamcmfaaDoor.Opens
open Go Go.ChangeShapes Go.WideShapes Go.RowKit
open Go.Proofs.YtdibgdiiamcmfaaDoorW.PrintWords Go.Proofs.YtdibgdiiamcmfaaDoor.PTape

theorem list4 {α : Type} {l : List α} (h : l.length = 4) : ∃ a b c d, l = [a, b, c, d] := by
  match l, h with
  | [a, b, c, d], _ => exact ⟨a, b, c, d, rfl⟩
set_option maxRecDepth 100000 in
theorem list10 {α : Type} {l : List α} (h : l.length = 10) : ∃ a b c d e f g h i j, l = [a, b, c, d, e, f, g, h, i, j] := by
  match l, h with
  | [a, b, c, d, e, f, g, h, i, j], _ => exact ⟨a, b, c, d, e, f, g, h, i, j, rfl⟩

section
variable {H : Type} {enc : TypeId × Value → H} {w : World} {base : Nat} {spare : Nat → Bool} {held : Bool} {fuel : Nat} {cs : List Value} {x : DataW H × List MemPlace}

theorem u8_fits {n : Int} (h : (Lit.int .u8 n).wf = true) : 0 ≤ n ∧ n < 256 := by
  simp [Lit.wf] at h; have e1 : IntKind.u8.min = 0 := rfl; have e2 : IntKind.u8.max = 255 := rfl; omega

theorem bytes_open (h : DataW.trod enc Tryd.prog w base spare held fuel 23 cs = some x) :
    ∃ (A : Option Addr) (c : Nat) (l : List Int), cs = [.slice A l.length c] ∧ Kd.C (Kd.int .u8) w A l.length l ∧ l.length ≤ c ∧ ∀ n ∈ l, 0 ≤ n ∧ n < 256 := by
  rcases open_ints Tryd.underlying23 Tryd.underlying5 (by kernel_rfl) h with ⟨rfl, _⟩ | ⟨a, len, c, zs, rfl, _, hl, hm, hz, _, hcell, hwz⟩
  · exact ⟨none, 0, [], rfl, Kd.C_nil _ _, Nat.le_refl _, fun _ h => by cases h⟩
  · have hzl : len ≤ zs.length := by rw [hz]; split <;> omega
    have hlt : (zs.take len).length = len := by rw [List.length_take]; omega
    refine ⟨some a, c, zs.take len, by rw [hlt], ?_, by omega, fun n hn => u8_fits (hwz n (List.mem_of_mem_take hn))⟩
    rw [hlt]
    refine Kd.C_of_reads (d := (0 : Int)) (h1 := fun _ => rfl) ⟨hlt, by have := hm; simp only [maxLen] at this; omega, fun _ => ⟨a, rfl, fun j hj => ?_⟩⟩
    rw [hcell j (by omega)]
    rw [List.getD_eq_getElem?_getD, List.getD_eq_getElem?_getD, List.getElem?_take_of_lt hj]

def intOf : Value → Int
  | .int _ n => n
  | _ => 0

theorem waves_open (h : DataW.trod enc Tryd.prog w base spare held fuel 24 cs = some x) :
    ∃ (A : Option Addr) (c : Nat) (l : List S37), cs = [.slice A l.length c] ∧ Kd.C k37 w A l.length l ∧ l.length ≤ c := by
  rcases Deep.open_slice_pairs Tryd.underlying24 Tryd.underlying37 (by kernel_rfl) rfl rfl (by kernel_rfl) (by kernel_rfl) h with ⟨rfl, _⟩ | ⟨a, len, c, m, n, V0, V1, D0, D1, P0, P1, rfl, _, hl, hm, hmm, _, hv⟩
  · exact ⟨none, 0, [], rfl, Kd.C_nil _ _, Nat.le_refl _⟩
  · have hlm : len ≤ m := by rw [hmm]; split <;> omega
    have hlen : ((List.range len).map fun i => (⟨intOf (V0 i), intOf (V1 i)⟩ : S37)).length = len := by simp
    refine ⟨some a, c, (List.range len).map fun i => ⟨intOf (V0 i), intOf (V1 i)⟩, by rw [hlen], ?_, by omega⟩
    rw [hlen]
    refine ⟨hlen, by have := hm; simp only [maxLen] at this; omega, fun _ => ⟨a, rfl, fun j p hj => ?_⟩⟩
    have hjl : j < len := by have := (List.getElem?_eq_some_iff.mp hj).1; omega
    obtain ⟨c0, c1, t0, t1⟩ := hv j (by omega)
    obtain ⟨n0, e0, _, _⟩ := DataW.trod_int Tryd.underlying3 t0
    obtain ⟨n1, e1, _, _⟩ := DataW.trod_int Tryd.underlying3 t1
    have e0 : V0 j = .int .i64 n0 := by simpa using e0
    have e1 : V1 j = .int .i64 n1 := by simpa using e1
    have hp : p = ⟨n0, n1⟩ := by
      rw [List.getElem?_map, List.getElem?_range hjl] at hj
      simp only [Option.map_some, Option.some.injEq, e0, e1, intOf] at hj
      exact hj.symm
    subst hp
    refine ⟨[.int .i64 n0, .int .i64 n1], rfl, k37_mk w ⟨n0, n1⟩, fun i u hu => ?_⟩
    match i, hu with
    | 0, hu => simp at hu; subst hu; rw [← e0]; exact c0
    | 1, hu => simp at hu; subst hu; rw [← e1]; exact c1
    | i + 2, hu => simp at hu

theorem int_open (h : DataW.trod enc Tryd.prog w base spare held fuel 3 cs = some x) : ∃ n, cs = [.int .i64 n] := by
  obtain ⟨n, e, _⟩ := DataW.trod_int Tryd.underlying3 h
  exact ⟨n, e⟩
theorem bool_open (h : DataW.trod enc Tryd.prog w base spare held fuel 4 cs = some x) : ∃ n, cs = [.bool n] := by
  obtain ⟨n, e, _⟩ := DataW.trod_bool Tryd.underlying4 h
  exact ⟨n, e⟩

theorem tape_open (h : DataW.trod enc Tryd.prog w base spare held fuel 50 cs = some x) :
    ∃ (A : Option Addr) (c : Nat) (l : List Int) (a1 : Int) (A2 : Option Addr) (c2 : Nat) (l2 : List S37) (a3 : Int), cs = [.slice A l.length c, .int .i64 a1, .slice A2 l2.length c2, .int .i64 a3] ∧
      Kd.C (Kd.int .u8) w A l.length l ∧ l.length ≤ c ∧ (∀ n ∈ l, 0 ≤ n ∧ n < 256) ∧ Kd.C k37 w A2 l2.length l2 ∧ l2.length ≤ c2 := by
  obtain ⟨y0, y1, y2, y3, n, _, hl, h0, h1, h2, h3⟩ := _root_.Go.Joins.trod_struct4 Tryd.underlying50 h
  rw [show Tryd.prog.cellsOf 50 = 4 by kernel_rfl] at hl
  obtain ⟨c0, c1, c2, c3, rfl⟩ : ∃ c0 c1 c2 c3, cs = [c0, c1, c2, c3] := list4 hl
  rw [show Tryd.prog.cellsOf 23 = 1 by kernel_rfl] at h0
  rw [show Tryd.prog.cellsOf 3 = 1 by kernel_rfl] at h1 h3
  rw [show Tryd.prog.cellsOf 24 = 1 by kernel_rfl] at h2
  simp only [List.drop_zero, List.drop_succ_cons, List.take_succ_cons, List.take_zero] at h0 h1 h2 h3
  obtain ⟨A, c, l, e0, hr, hc, hb⟩ := bytes_open h0
  obtain ⟨a1, e1⟩ := int_open h1
  obtain ⟨A2, d2, l2, e2, hr2, hc2⟩ := waves_open h2
  obtain ⟨a3, e3⟩ := int_open h3
  simp only [List.cons.injEq, and_true] at e0 e1 e2 e3
  subst e0 e1 e2 e3
  exact ⟨A, c, l, a1, A2, d2, l2, a3, rfl, hr, hc, hb, hr2, hc2⟩

set_option maxRecDepth 100000 in
theorem span_open (h : DataW.trod enc Tryd.prog w base spare held fuel 44 cs = some x) :
    ∃ (s0 s1 : Int) (s2 s3 s4 s5 s6 s7 s8 : Bool) (s9 : Int), cs = [.int .i64 s0, .int .u16 s1, .bool s2, .bool s3, .bool s4, .bool s5, .bool s6, .bool s7, .bool s8, .int .u8 s9] := by
  obtain ⟨xs, n, _, _, hl, hx, hf⟩ := DataW.trod_struct Tryd.underlying44 h
  rw [show Tryd.prog.cellsOf 44 = 10 by kernel_rfl] at hl
  obtain ⟨c0, c1, c2, c3, c4, c5, c6, c7, c8, c9, rfl⟩ : ∃ c0 c1 c2 c3 c4 c5 c6 c7 c8 c9, cs = [c0, c1, c2, c3, c4, c5, c6, c7, c8, c9] := list10 hl
  obtain ⟨y0, y1, y2, y3, y4, y5, y6, y7, y8, y9, rfl⟩ : ∃ y0 y1 y2 y3 y4 y5 y6 y7 y8 y9, xs = [y0, y1, y2, y3, y4, y5, y6, y7, y8, y9] := list10 hx
  have k3 : Tryd.prog.cellsOf 3 = 1 := by kernel_rfl
  have k42 : Tryd.prog.cellsOf 42 = 1 := by kernel_rfl
  have k4 : Tryd.prog.cellsOf 4 = 1 := by kernel_rfl
  have k5 : Tryd.prog.cellsOf 5 = 1 := by kernel_rfl
  have f0 : DataW.trod enc Tryd.prog w base spare held n 3 [c0] = some y0 := by have := hf 0 _ rfl; simpa [k3, k42, k4, k5] using this
  have f1 : DataW.trod enc Tryd.prog w base spare held n 42 [c1] = some y1 := by have := hf 1 _ rfl; simpa [k3, k42, k4, k5] using this
  have f2 : DataW.trod enc Tryd.prog w base spare held n 4 [c2] = some y2 := by have := hf 2 _ rfl; simpa [k3, k42, k4, k5] using this
  have f3 : DataW.trod enc Tryd.prog w base spare held n 4 [c3] = some y3 := by have := hf 3 _ rfl; simpa [k3, k42, k4, k5] using this
  have f4 : DataW.trod enc Tryd.prog w base spare held n 4 [c4] = some y4 := by have := hf 4 _ rfl; simpa [k3, k42, k4, k5] using this
  have f5 : DataW.trod enc Tryd.prog w base spare held n 4 [c5] = some y5 := by have := hf 5 _ rfl; simpa [k3, k42, k4, k5] using this
  have f6 : DataW.trod enc Tryd.prog w base spare held n 4 [c6] = some y6 := by have := hf 6 _ rfl; simpa [k3, k42, k4, k5] using this
  have f7 : DataW.trod enc Tryd.prog w base spare held n 4 [c7] = some y7 := by have := hf 7 _ rfl; simpa [k3, k42, k4, k5] using this
  have f8 : DataW.trod enc Tryd.prog w base spare held n 4 [c8] = some y8 := by have := hf 8 _ rfl; simpa [k3, k42, k4, k5] using this
  have f9 : DataW.trod enc Tryd.prog w base spare held n 5 [c9] = some y9 := by have := hf 9 _ rfl; simpa [k3, k42, k4, k5] using this
  obtain ⟨s0, e0⟩ := int_open f0
  obtain ⟨s1, e1, _⟩ := DataW.trod_int Tryd.underlying42 f1
  obtain ⟨s2, e2⟩ := bool_open f2
  obtain ⟨s3, e3⟩ := bool_open f3
  obtain ⟨s4, e4⟩ := bool_open f4
  obtain ⟨s5, e5⟩ := bool_open f5
  obtain ⟨s6, e6⟩ := bool_open f6
  obtain ⟨s7, e7⟩ := bool_open f7
  obtain ⟨s8, e8⟩ := bool_open f8
  obtain ⟨s9, e9, _⟩ := DataW.trod_int Tryd.underlying5 f9
  simp at e0 e1 e2 e3 e4 e5 e6 e7 e8 e9
  subst e0 e1 e2 e3 e4 e5 e6 e7 e8 e9
  exact ⟨s0, s1, s2, s3, s4, s5, s6, s7, s8, s9, rfl⟩

theorem agg_open {P : Program} {t : TypeId} {fs : Array Field} {v : Value} {d : DataW H} {ps : List MemPlace} (hu : P.underlying t = some (.struct fs)) {r : Reach} {b : Nat} (hv : Value.okWide P w r b t v) (h : DataW.Trod enc P w base spare held t v d ps) :
    ∃ cs fuel, v = .agg cs ∧ DataW.trod enc P w base spare held fuel t cs.toList = some (d, ps) := by
  obtain ⟨cs, rfl, _⟩ := okWide_struct hu hv
  obtain ⟨fuel, hf⟩ := h
  rw [show (Value.agg cs).cells = cs by simp [Value.cells]] at hf
  exact ⟨cs, fuel, rfl, hf⟩
end
end Go.Proofs.YtdibgdiiamcmfaaDoor.Opens
