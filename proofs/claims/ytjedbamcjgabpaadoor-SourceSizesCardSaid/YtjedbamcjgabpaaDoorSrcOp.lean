/- What came in, opened: an item, a row of items. -/
import Derived.Test.YtjedbamcjgabpaaDoorPSox0
import Derived.OpenShut
import Derived.WideShapes
import Derived.ChangeMaps5
import Derived.Deep.SlicePairs
set_option linter.unusedVariables false
set_option linter.unusedSimpArgs false
namespace Go.Proofs.YtjedbamcjgabpaaDoor.Opens
open Go Go.ChangeShapes Go.WideShapes Go.RowKit
open Go.Proofs.YtjedbamcjgabpaaDoorW.PrintWords Go.Proofs.YtjedbamcjgabpaaDoor.PSo
def Bytes8 (l : List Int) : Prop := ∀ x ∈ l, 0 ≤ x ∧ x < 256

section
variable {H : Type} {enc : TypeId × Value → H} {w : World} {base : Nat} {spare : Nat → Bool} {held : Bool} {fuel : Nat} {cs : List Value} {x : DataW H × List MemPlace}

theorem u8_fits {n : Int} (h : (Lit.int .u8 n).wf = true) : 0 ≤ n ∧ n < 256 := by
 simp [Lit.wf] at h; have e1 : IntKind.u8.min = 0 := rfl; have e2 : IntKind.u8.max = 255 := rfl; omega
theorem i64_fits {n : Int} (h : (Lit.int .i64 n).wf = true) : -9223372036854775808 ≤ n ∧ n ≤ 9223372036854775807 := by
 simp [Lit.wf] at h; have e1 : IntKind.i64.min = -9223372036854775808 := rfl; have e2 : IntKind.i64.max = 9223372036854775807 := rfl; omega
theorem mem_all {P : Program} {e : TypeId} : ∀ {l : List (DataW H)} {d : DataW H} {n : Nat}, d ∈ l → n ∈ d.weights P e → n ∈ DataW.weightsAll P e l
 | y :: r, d, n, hd, hn => by
  rw [DataW.weightsAll, List.mem_append]
  rcases List.mem_cons.1 hd with rfl | hd
  ·exact .inl hn
  exact .inr (mem_all hd hn)
def Wt (P : Program) (t : TypeId) (d : DataW H) : Prop := ∀ n ∈ d.weights P t, n ≤ reachBytes
theorem C_openB {P : Program} {α : Type} (d : Kd α) [Inhabited α] (ok : α → Prop) {t e : TypeId} (ht : P.underlying t = some (.slice e)) (hsz : P.cellsOf e = d.sz)
 (hel : ∀ n cs y, DataW.trod enc P w base spare held n e cs = some y → Wt P e y.1 → ∃ p, ok p ∧ d.K w p cs) (h : DataW.trod enc P w base spare held fuel t cs = some x) (hW : Wt P t x.1) :
 ∃ (A : Option Addr) (c : Nat) (l : List α), cs = [.slice A l.length c] ∧ d.C w A l.length l ∧ l.length ≤ c ∧ (∀ p ∈ l, ok p) ∧ l.length * P.bytesOf e ≤ reachBytes := by
 rcases Deep.open_slice ht h with ⟨rfl, _⟩ | ⟨a, len, c, m, n, D, Pl, rfl, _, hl, hm, hmm, hxe, hv⟩
 ·exact ⟨none, 0, [], rfl, Kd.C_nil _ _, Nat.le_refl _, fun _ h => (by cases h), by simp⟩
 have hlm : len ≤ m := by rw [hmm]; split <;> omega
 have hxe1 : x.1 = .slice ((List.range len).map D) ((List.range (m - len)).map fun j => D (len + j)) := by rw [hxe]
 rw [hxe1] at hW
 have hW0 : ∀ n ∈ ((((List.range len).map D).length + ((List.range (m - len)).map fun j => D (len + j)).length) * P.bytesOf e :: (DataW.weightsAll P e ((List.range len).map D) ++ DataW.weightsAll P e ((List.range (m - len)).map fun j => D (len + j)))), n ≤ reachBytes := by
  have := hW
  unfold Wt at this
  rw [DataW.weights, ht] at this
  exact this
 have hbound : len * P.bytesOf e ≤ reachBytes := by
  have := hW0 _ List.mem_cons_self
  simp only [List.length_map, List.length_range] at this
  exact Nat.le_trans (Nat.mul_le_mul_right _ (Nat.le_add_right _ _)) this
 have hel2 : ∀ i, i < len → Wt P e (D i) := fun i hi n hn => hW0 n (List.mem_cons_of_mem _ (List.mem_append_left _ (mem_all (List.mem_map.2 ⟨i, List.mem_range.2 hi, rfl⟩) hn)))
 have each : ∀ i, i < len → ∃ q : α × List Value, w.cells? base (a.add (i * P.cellsOf e)) (P.cellsOf e) = some q.2 ∧ ok q.1 ∧ d.K w q.1 q.2 := by
  intro i hi
  obtain ⟨cs', h1, h2⟩ := hv i (by omega)
  obtain ⟨p, h0, hp⟩ := hel _ _ _ h2 (hel2 i hi)
  exact ⟨(p, cs'), h1, h0, hp⟩
 obtain ⟨q, hq⟩ := Deep.choose_lt (α := α × List Value) each
 have hlen : ((List.range len).map fun i => (q i).1).length = len := by simp
 refine ⟨some a, c, (List.range len).map fun i => (q i).1, by rw [hlen], ?_, by rw [hlen]; omega, ?_, by rw [hlen]; exact hbound⟩
 ·rw [hlen]
  refine ⟨hlen, by have := hm; simp only [maxLen] at this; omega, fun _ => ⟨a, rfl, fun j p hj => ?_⟩⟩
  have hjl : j < len := by have := (List.getElem?_eq_some_iff.mp hj).1; omega
  rw [List.getElem?_map, List.getElem?_range hjl] at hj
  simp only [Option.map_some, Option.some.injEq] at hj
  subst hj
  obtain ⟨h1, _, h2⟩ := hq j hjl
  obtain ⟨_, hcl, hcell⟩ := World.cells?_some h1
  refine ⟨(q j).2, by rw [hcl, hsz], h2, fun i u hu => ?_⟩
  have hi := (List.getElem?_eq_some_iff.mp hu).1
  have := hcell i (by omega)
  rw [Deep.add_add, hsz] at this
  rw [this, hu]
 intro p hp
 obtain ⟨i, hi, rfl⟩ := List.mem_map.1 hp
 exact (hq i (List.mem_range.1 hi)).2.1

theorem reach_lt : reachBytes ≤ 1000000000000000 := by decide +kernel
theorem bytes_openB (h : DataW.trod enc Tryd.prog w base spare held fuel 41 cs = some x) (hW : Wt Tryd.prog 41 x.1) :
 ∃ (A : Option Addr) (c : Nat) (l : List Int), cs = [.slice A l.length c] ∧ (Kd.int .u8).C w A l.length l ∧ l.length ≤ c ∧ Bytes8 l ∧ l.length ≤ 1000000000000000 := by
 haveI : Inhabited Int := ⟨0⟩
 obtain ⟨A, c, l, h1, h2, h3, h4, h5⟩ := C_openB (Kd.int .u8) (fun p => 0 ≤ p ∧ p < 256) Tryd.underlying41 (by kernel_rfl) (fun n cs y hy _ => by
  obtain ⟨s, e, _, b⟩ := DataW.trod_int Tryd.underlying5 hy
  exact ⟨s, u8_fits b, e⟩) h hW
 refine ⟨A, c, l, h1, h2, h3, h4, ?_⟩
 rw [show Tryd.prog.bytesOf 5 = 1 by kernel_rfl, Nat.mul_one] at h5
 exact Nat.le_trans h5 reach_lt
set_option maxRecDepth 100000 in
theorem item_openB (h : DataW.trod enc Tryd.prog w base spare held fuel 43 cs = some x) (hW : Wt Tryd.prog 43 x.1) : ∃ (s : S43) (A : Option Addr) (c : Nat), cs = [.int .u8 s.f0, .string s.f1, .int .i64 s.f2, .string s.f3, .int .u8 s.f4, .slice A s.f5.length c] ∧ ((0 ≤ s.f0 ∧ s.f0 < 256) ∧ (0 ≤ s.f4 ∧ s.f4 < 256) ∧ (-9223372036854775808 ≤ s.f2 ∧ s.f2 ≤ 9223372036854775807) ∧ Bytes8 s.f5 ∧ s.f5.length ≤ 1000000000000000) ∧ (Kd.int .u8).C w A s.f5.length s.f5 ∧ s.f5.length ≤ c := by
 obtain ⟨xs, n, _, hxe, hl, hx, hf⟩ := DataW.trod_struct Tryd.underlying43 h
 rw [show Tryd.prog.cellsOf 43 = 6 by kernel_rfl] at hl
 obtain ⟨c0, c1, c2, c3, c4, c5, rfl⟩ : ∃ c0 c1 c2 c3 c4 c5, cs = [c0, c1, c2, c3, c4, c5] := by match cs, hl with | [a, b, c, d, e, f], _ => exact ⟨a, b, c, d, e, f, rfl⟩
 obtain ⟨y0, y1, y2, y3, y4, y5, rfl⟩ : ∃ y0 y1 y2 y3 y4 y5, xs = [y0, y1, y2, y3, y4, y5] := by match xs, hx with | [a, b, c, d, e, f], _ => exact ⟨a, b, c, d, e, f, rfl⟩
 have m0 : Tryd.prog.cellsOf 39 = 1 := by kernel_rfl
 have m1 : Tryd.prog.cellsOf 9 = 1 := by kernel_rfl
 have m2 : Tryd.prog.cellsOf 3 = 1 := by kernel_rfl
 have m3 : Tryd.prog.cellsOf 40 = 1 := by kernel_rfl
 have m4 : Tryd.prog.cellsOf 41 = 1 := by kernel_rfl
 have f0 : DataW.trod enc Tryd.prog w base spare held n 39 [c0] = some y0 := by have := hf 0 _ rfl; simpa [m0, m1, m2, m3, m4] using this
 have f1 : DataW.trod enc Tryd.prog w base spare held n 9 [c1] = some y1 := by have := hf 1 _ rfl; simpa [m0, m1, m2, m3, m4] using this
 have f2 : DataW.trod enc Tryd.prog w base spare held n 3 [c2] = some y2 := by have := hf 2 _ rfl; simpa [m0, m1, m2, m3, m4] using this
 have f3 : DataW.trod enc Tryd.prog w base spare held n 9 [c3] = some y3 := by have := hf 3 _ rfl; simpa [m0, m1, m2, m3, m4] using this
 have f4 : DataW.trod enc Tryd.prog w base spare held n 40 [c4] = some y4 := by have := hf 4 _ rfl; simpa [m0, m1, m2, m3, m4] using this
 have f5 : DataW.trod enc Tryd.prog w base spare held n 41 [c5] = some y5 := by have := hf 5 _ rfl; simpa [m0, m1, m2, m3, m4] using this
 have hW1 : Wt Tryd.prog 41 y5.1 := fun n hn => hW n (by
  rw [hxe]
  simp [DataW.weights, Tryd.underlying43, DataW.weightsEach, hn])
 obtain ⟨s0, e0, _, b0⟩ := DataW.trod_int Tryd.underlying39 f0
 obtain ⟨s1, e1, _⟩ := DataW.trod_string Tryd.underlying9 f1
 obtain ⟨s2, e2, _, b2⟩ := DataW.trod_int Tryd.underlying3 f2
 obtain ⟨s3, e3, _⟩ := DataW.trod_string Tryd.underlying9 f3
 obtain ⟨s4, e4, _, b4⟩ := DataW.trod_int Tryd.underlying40 f4
 obtain ⟨A, c, l, e5, hC, hc, h8, hb⟩ := bytes_openB f5 hW1
 simp at e0 e1 e2 e3 e4 e5
 subst e0 e1 e2 e3 e4 e5
 exact ⟨⟨s0, s1, s2, s3, s4, l⟩, A, c, rfl, ⟨u8_fits b0, u8_fits b4, i64_fits b2, h8, hb⟩, hC, hc⟩
end
end Go.Proofs.YtjedbamcjgabpaaDoor.Opens
