/- The object that came in, opened: rows of blocks, marks, labels. -/
import Derived.Test.YtbffmfeflcdgbaaDoorAsmP7
import Derived.ChangeMaps5
import Derived.Deep.SlicePairs
set_option linter.unusedVariables false
set_option linter.unusedSimpArgs false
namespace Go.Proofs.YtbffmfeflcdgbaaDoor.Opens
open Go Go.ChangeShapes Go.WideShapes Go.RowKit
open Go.Proofs.YtbffmfeflcdgbaaDoorW.PrintWords Go.Proofs.YtbffmfeflcdgbaaDoor.POb Go.Proofs.YtbffmfeflcdgbaaDoor.P

section
variable {H : Type} {enc : TypeId × Value → H} {w : World} {base : Nat} {spare : Nat → Bool} {held : Bool} {fuel : Nat} {cs : List Value} {x : DataW H × List MemPlace}

theorem u8_fits {n : Int} (h : (Lit.int .u8 n).wf = true) : 0 ≤ n ∧ n < 256 := by
 simp [Lit.wf] at h; have e1 : IntKind.u8.min = 0 := rfl; have e2 : IntKind.u8.max = 255 := rfl; omega
theorem bool_open (h : DataW.trod enc Tryd.prog w base spare held fuel 4 cs = some x) : ∃ n, cs = [.bool n] := by
 obtain ⟨n, e, _⟩ := DataW.trod_bool Tryd.underlying4 h
 exact ⟨n, e⟩

theorem mem_all {P : Program} {e : TypeId} : ∀ {l : List (DataW H)} {d : DataW H} {n : Nat}, d ∈ l → n ∈ d.weights P e → n ∈ DataW.weightsAll P e l
 | y :: r, d, n, hd, hn => by
  rw [DataW.weightsAll, List.mem_append]
  rcases List.mem_cons.1 hd with rfl | hd
  ·exact .inl hn
  exact .inr (mem_all hd hn)
def Wt (P : Program) (t : TypeId) (d : DataW H) : Prop := ∀ n ∈ d.weights P t, n ≤ reachBytes
theorem C_openB {P : Program} {α : Type} (d : Kd α) [Inhabited α] (ok : α → Prop) {t e : TypeId} (ht : P.underlying t = some (.slice e)) (hsz : P.cellsOf e = d.sz)
 (hel : ∀ n cs y, DataW.trod enc P w base spare held n e cs = some y → Wt P e y.1 → ∃ p, ok p ∧ d.K w p cs) (h : DataW.trod enc P w base spare held fuel t cs = some x) (hW : Wt P t x.1) :
 ∃ (A : Option Addr) (c : Nat) (l : List α), cs = [.slice A l.length c] ∧ d.C w A l.length l ∧ l.length ≤ c ∧ (∀ p ∈ l, ok p) ∧ l.length * P.bytesOf e ≤ reachBytes := by
 rcases Deep.open_slice ht h with ⟨rfl, _⟩ | ⟨a, len, c, m, n, D, Pl, rfl, _, hl, hm, hmm, hxe, hv⟩
 ·exact ⟨none, 0, [], rfl, Kd.C_nil _ _, Nat.le_refl _, fun _ h => (by cases h), by simp⟩
 have hlm : len ≤ m := by rw [hmm]; split <;> omega
 have hxe1 : x.1 = .slice ((List.range len).map D) ((List.range (m - len)).map fun j => D (len + j)) := by rw [hxe]
 rw [hxe1] at hW
 have hW0 : ∀ n ∈ ((((List.range len).map D).length + ((List.range (m - len)).map fun j => D (len + j)).length) * P.bytesOf e :: (DataW.weightsAll P e ((List.range len).map D) ++ DataW.weightsAll P e ((List.range (m - len)).map fun j => D (len + j)))), n ≤ reachBytes := by
  have := hW
  unfold Wt at this
  rw [DataW.weights, ht] at this
  exact this
 have hbound : len * P.bytesOf e ≤ reachBytes := by
  have := hW0 _ List.mem_cons_self
  simp only [List.length_map, List.length_range] at this
  exact Nat.le_trans (Nat.mul_le_mul_right _ (Nat.le_add_right _ _)) this
 have hel2 : ∀ i, i < len → Wt P e (D i) := fun i hi n hn => hW0 n (List.mem_cons_of_mem _ (List.mem_append_left _ (mem_all (List.mem_map.2 ⟨i, List.mem_range.2 hi, rfl⟩) hn)))
 have each : ∀ i, i < len → ∃ q : α × List Value, w.cells? base (a.add (i * P.cellsOf e)) (P.cellsOf e) = some q.2 ∧ ok q.1 ∧ d.K w q.1 q.2 := by
  intro i hi
  obtain ⟨cs', h1, h2⟩ := hv i (by omega)
  obtain ⟨p, h0, hp⟩ := hel _ _ _ h2 (hel2 i hi)
  exact ⟨(p, cs'), h1, h0, hp⟩
 obtain ⟨q, hq⟩ := Deep.choose_lt (α := α × List Value) each
 have hlen : ((List.range len).map fun i => (q i).1).length = len := by simp
 refine ⟨some a, c, (List.range len).map fun i => (q i).1, by rw [hlen], ?_, by rw [hlen]; omega, ?_, by rw [hlen]; exact hbound⟩
 ·rw [hlen]
  refine ⟨hlen, by have := hm; simp only [maxLen] at this; omega, fun _ => ⟨a, rfl, fun j p hj => ?_⟩⟩
  have hjl : j < len := by have := (List.getElem?_eq_some_iff.mp hj).1; omega
  rw [List.getElem?_map, List.getElem?_range hjl] at hj
  simp only [Option.map_some, Option.some.injEq] at hj
  subst hj
  obtain ⟨h1, _, h2⟩ := hq j hjl
  obtain ⟨_, hcl, hcell⟩ := World.cells?_some h1
  refine ⟨(q j).2, by rw [hcl, hsz], h2, fun i u hu => ?_⟩
  have hi := (List.getElem?_eq_some_iff.mp hu).1
  have := hcell i (by omega)
  rw [Deep.add_add, hsz] at this
  rw [this, hu]
 intro p hp
 obtain ⟨i, hi, rfl⟩ := List.mem_map.1 hp
 exact (hq i (List.mem_range.1 hi)).2.1

set_option maxRecDepth 100000 in
theorem label_open (h : DataW.trod enc Tryd.prog w base spare held fuel 47 cs = some x) : ∃ s : S47, cs = [.string s.f0, .int .i64 s.f1] := by
 obtain ⟨xs, n, _, _, hl, hx, hf⟩ := DataW.trod_struct Tryd.underlying47 h
 rw [show Tryd.prog.cellsOf 47 = 2 by kernel_rfl] at hl
 obtain ⟨c0, c1, rfl⟩ : ∃ c0 c1, cs = [c0, c1] := by match cs, hl with | [a, b], _ => exact ⟨a, b, rfl⟩
 obtain ⟨y0, y1, rfl⟩ : ∃ y0 y1, xs = [y0, y1] := by match xs, hx with | [a, b], _ => exact ⟨a, b, rfl⟩
 have k9 : Tryd.prog.cellsOf 9 = 1 := by kernel_rfl
 have k3 : Tryd.prog.cellsOf 3 = 1 := by kernel_rfl
 have f0 : DataW.trod enc Tryd.prog w base spare held n 9 [c0] = some y0 := by have := hf 0 _ rfl; simpa [k3, k9] using this
 have f1 : DataW.trod enc Tryd.prog w base spare held n 3 [c1] = some y1 := by have := hf 1 _ rfl; simpa [k3, k9] using this
 obtain ⟨s0, e0, _⟩ := DataW.trod_string Tryd.underlying9 f0
 obtain ⟨s1, e1, _⟩ := DataW.trod_int Tryd.underlying3 f1
 simp at e0 e1
 subst e0 e1
 exact ⟨⟨s0, s1⟩, rfl⟩
set_option maxRecDepth 100000 in
theorem mark_open (h : DataW.trod enc Tryd.prog w base spare held fuel 52 cs = some x) : ∃ s : S52, cs = [.int .i64 s.f0, .int .i64 s.f1, .bool s.f2] := by
 obtain ⟨xs, n, _, _, hl, hx, hf⟩ := DataW.trod_struct Tryd.underlying52 h
 rw [show Tryd.prog.cellsOf 52 = 3 by kernel_rfl] at hl
 obtain ⟨c0, c1, c2, rfl⟩ : ∃ c0 c1 c2, cs = [c0, c1, c2] := by match cs, hl with | [a, b, c], _ => exact ⟨a, b, c, rfl⟩
 obtain ⟨y0, y1, y2, rfl⟩ : ∃ y0 y1 y2, xs = [y0, y1, y2] := by match xs, hx with | [a, b, c], _ => exact ⟨a, b, c, rfl⟩
 have k4 : Tryd.prog.cellsOf 4 = 1 := by kernel_rfl
 have k3 : Tryd.prog.cellsOf 3 = 1 := by kernel_rfl
 have f0 : DataW.trod enc Tryd.prog w base spare held n 3 [c0] = some y0 := by have := hf 0 _ rfl; simpa [k3, k4] using this
 have f1 : DataW.trod enc Tryd.prog w base spare held n 3 [c1] = some y1 := by have := hf 1 _ rfl; simpa [k3, k4] using this
 have f2 : DataW.trod enc Tryd.prog w base spare held n 4 [c2] = some y2 := by have := hf 2 _ rfl; simpa [k3, k4] using this
 obtain ⟨s0, e0, _⟩ := DataW.trod_int Tryd.underlying3 f0
 obtain ⟨s1, e1, _⟩ := DataW.trod_int Tryd.underlying3 f1
 obtain ⟨s2, e2⟩ := bool_open f2
 simp at e0 e1 e2
 subst e0 e1 e2
 exact ⟨⟨s0, s1, s2⟩, rfl⟩
theorem reach_lt : reachBytes ≤ 1000000000000000 := by decide +kernel
theorem bytes_openB (h : DataW.trod enc Tryd.prog w base spare held fuel 33 cs = some x) (hW : Wt Tryd.prog 33 x.1) :
 ∃ (A : Option Addr) (c : Nat) (l : List Int), cs = [.slice A l.length c] ∧ (Kd.int .u8).C w A l.length l ∧ l.length ≤ c ∧ Bytes8 l ∧ l.length ≤ 1000000000000000 := by
 haveI : Inhabited Int := ⟨0⟩
 obtain ⟨A, c, l, h1, h2, h3, h4, h5⟩ := C_openB (Kd.int .u8) (fun p => 0 ≤ p ∧ p < 256) Tryd.underlying33 (by kernel_rfl) (fun n cs y hy _ => by
  obtain ⟨s, e, _, b⟩ := DataW.trod_int Tryd.underlying5 hy
  exact ⟨s, u8_fits b, e⟩) h hW
 refine ⟨A, c, l, h1, h2, h3, h4, ?_⟩
 rw [show Tryd.prog.bytesOf 5 = 1 by kernel_rfl, Nat.mul_one] at h5
 exact Nat.le_trans h5 reach_lt
set_option maxRecDepth 100000 in
theorem block_openB (h : DataW.trod enc Tryd.prog w base spare held fuel 42 cs = some x) (hW : Wt Tryd.prog 42 x.1) : ∃ s : S42, (Bytes8 s.f1 ∧ s.f1.length ≤ 1000000000000000) ∧ k42.K w s cs := by
 obtain ⟨xs, n, _, hxe, hl, hx, hf⟩ := DataW.trod_struct Tryd.underlying42 h
 rw [show Tryd.prog.cellsOf 42 = 2 by kernel_rfl] at hl
 obtain ⟨c0, c1, rfl⟩ : ∃ c0 c1, cs = [c0, c1] := by match cs, hl with | [a, b], _ => exact ⟨a, b, rfl⟩
 obtain ⟨y0, y1, rfl⟩ : ∃ y0 y1, xs = [y0, y1] := by match xs, hx with | [a, b], _ => exact ⟨a, b, rfl⟩
 have k33 : Tryd.prog.cellsOf 33 = 1 := by kernel_rfl
 have k3 : Tryd.prog.cellsOf 3 = 1 := by kernel_rfl
 have f0 : DataW.trod enc Tryd.prog w base spare held n 3 [c0] = some y0 := by have := hf 0 _ rfl; simpa [k3, k33] using this
 have f1 : DataW.trod enc Tryd.prog w base spare held n 33 [c1] = some y1 := by have := hf 1 _ rfl; simpa [k3, k33] using this
 have hW1 : Wt Tryd.prog 33 y1.1 := fun n hn => hW n (by
  rw [hxe]
  simp [DataW.weights, Tryd.underlying42, DataW.weightsEach, hn])
 obtain ⟨s0, e0, _⟩ := DataW.trod_int Tryd.underlying3 f0
 obtain ⟨A, c, l, e1, hC, hc, h8, hb⟩ := bytes_openB f1 hW1
 simp at e0 e1
 subst e0 e1
 exact ⟨⟨s0, l⟩, ⟨h8, hb⟩, k42_mk w ⟨s0, l⟩ hc hC⟩
theorem blocks_openB (h : DataW.trod enc Tryd.prog w base spare held fuel 22 cs = some x) (hW : Wt Tryd.prog 22 x.1) :
 ∃ (A : Option Addr) (c : Nat) (l : List S42), cs = [.slice A l.length c] ∧ k42.C w A l.length l ∧ l.length ≤ c ∧ (∀ s ∈ l, Bytes8 s.f1 ∧ s.f1.length ≤ 1000000000000000) ∧ l.length ≤ 1000000000000000 := by
 haveI : Inhabited S42 := ⟨z42⟩
 obtain ⟨A, c, l, h1, h2, h3, h4, h5⟩ := C_openB k42 (fun s => Bytes8 s.f1 ∧ s.f1.length ≤ 1000000000000000) Tryd.underlying22 (by kernel_rfl) (fun n cs y hy hw => block_openB hy hw) h hW
 refine ⟨A, c, l, h1, h2, h3, h4, ?_⟩
 have := Nat.le_trans h5 reach_lt
 rw [show Tryd.prog.bytesOf 42 = 32 by kernel_rfl] at this
 omega
theorem marks_openB (h : DataW.trod enc Tryd.prog w base spare held fuel 23 cs = some x) (hW : Wt Tryd.prog 23 x.1) :
 ∃ (A : Option Addr) (c : Nat) (l : List S52), cs = [.slice A l.length c] ∧ k52.C w A l.length l ∧ l.length ≤ c ∧ l.length ≤ 1000000000000000 := by
 haveI : Inhabited S52 := ⟨z52⟩
 obtain ⟨A, c, l, h1, h2, h3, _, h5⟩ := C_openB k52 (fun _ => True) Tryd.underlying23 (by kernel_rfl) (fun n cs y hy hw => by
  obtain ⟨s, rfl⟩ := mark_open hy
  exact ⟨s, trivial, k52_mk w s⟩) h hW
 refine ⟨A, c, l, h1, h2, h3, ?_⟩
 have := Nat.le_trans h5 reach_lt
 rw [show Tryd.prog.bytesOf 52 = 24 by kernel_rfl] at this
 omega
theorem labels_openB (h : DataW.trod enc Tryd.prog w base spare held fuel 24 cs = some x) (hW : Wt Tryd.prog 24 x.1) :
 ∃ (A : Option Addr) (c : Nat) (l : List S47), cs = [.slice A l.length c] ∧ k47.C w A l.length l ∧ l.length ≤ c ∧ l.length ≤ 1000000000000000 := by
 haveI : Inhabited S47 := ⟨z47⟩
 obtain ⟨A, c, l, h1, h2, h3, _, h5⟩ := C_openB k47 (fun _ => True) Tryd.underlying24 (by kernel_rfl) (fun n cs y hy hw => by
  obtain ⟨s, rfl⟩ := label_open hy
  exact ⟨s, trivial, k47_mk w s⟩) h hW
 refine ⟨A, c, l, h1, h2, h3, ?_⟩
 have := Nat.le_trans h5 reach_lt
 rw [show Tryd.prog.bytesOf 47 = 24 by kernel_rfl] at this
 omega
set_option maxRecDepth 100000 in
theorem object_open (h : DataW.trod enc Tryd.prog w base spare held fuel 26 cs = some x) (hW : Wt Tryd.prog 26 x.1) :
 ∃ (A0 : Option Addr) (c0 : Nat) (l0 : List S42) (A1 : Option Addr) (c1 : Nat) (l1 : List S52) (A2 : Option Addr) (c2 : Nat) (l2 : List S47), cs = [.slice A0 l0.length c0, .slice A1 l1.length c1, .slice A2 l2.length c2] ∧
  k42.C w A0 l0.length l0 ∧ l0.length ≤ c0 ∧ k52.C w A1 l1.length l1 ∧ l1.length ≤ c1 ∧ k47.C w A2 l2.length l2 ∧ l2.length ≤ c2 ∧
  (∀ s ∈ l0, Bytes8 s.f1 ∧ s.f1.length ≤ 1000000000000000) ∧ l0.length ≤ 1000000000000000 ∧ l1.length ≤ 1000000000000000 ∧ l2.length ≤ 1000000000000000 := by
 obtain ⟨xs, n, _, hxe, hl, hx, hf⟩ := DataW.trod_struct Tryd.underlying26 h
 rw [show Tryd.prog.cellsOf 26 = 3 by kernel_rfl] at hl
 obtain ⟨c0, c1, c2, rfl⟩ : ∃ c0 c1 c2, cs = [c0, c1, c2] := by match cs, hl with | [a, b, c], _ => exact ⟨a, b, c, rfl⟩
 obtain ⟨y0, y1, y2, rfl⟩ : ∃ y0 y1 y2, xs = [y0, y1, y2] := by match xs, hx with | [a, b, c], _ => exact ⟨a, b, c, rfl⟩
 have k22 : Tryd.prog.cellsOf 22 = 1 := by kernel_rfl
 have k23 : Tryd.prog.cellsOf 23 = 1 := by kernel_rfl
 have k24 : Tryd.prog.cellsOf 24 = 1 := by kernel_rfl
 have f0 : DataW.trod enc Tryd.prog w base spare held n 22 [c0] = some y0 := by have := hf 0 _ rfl; simpa [k22, k23, k24] using this
 have f1 : DataW.trod enc Tryd.prog w base spare held n 23 [c1] = some y1 := by have := hf 1 _ rfl; simpa [k22, k23, k24] using this
 have f2 : DataW.trod enc Tryd.prog w base spare held n 24 [c2] = some y2 := by have := hf 2 _ rfl; simpa [k22, k23, k24] using this
 have hW0 : Wt Tryd.prog 22 y0.1 := fun n hn => hW n (by rw [hxe]; simp [DataW.weights, Tryd.underlying26, DataW.weightsEach, hn])
 have hW1 : Wt Tryd.prog 23 y1.1 := fun n hn => hW n (by rw [hxe]; simp [DataW.weights, Tryd.underlying26, DataW.weightsEach, hn])
 have hW2 : Wt Tryd.prog 24 y2.1 := fun n hn => hW n (by rw [hxe]; simp [DataW.weights, Tryd.underlying26, DataW.weightsEach, hn])
 obtain ⟨A0, d0, l0, e0, a0, b0, g0, n0⟩ := blocks_openB f0 hW0
 obtain ⟨A1, d1, l1, e1, a1, b1, n1⟩ := marks_openB f1 hW1
 obtain ⟨A2, d2, l2, e2, a2, b2, n2⟩ := labels_openB f2 hW2
 simp at e0 e1 e2
 subst e0 e1 e2
 exact ⟨A0, d0, l0, A1, d1, l1, A2, d2, l2, rfl, a0, b0, a1, b1, a2, b2, g0, n0, n1, n2⟩
set_option maxRecDepth 100000 in
theorem ask_open (h : DataW.trod enc Tryd.prog w base spare held fuel 28 cs = some x) : ∃ (a b : Int) (s : ByteArray), cs = [.int .i64 a, .int .i64 b, .string s] := by
 obtain ⟨xs, n, _, hxe, hl, hx, hf⟩ := DataW.trod_struct Tryd.underlying28 h
 rw [show Tryd.prog.cellsOf 28 = 3 by kernel_rfl] at hl
 obtain ⟨c0, c1, c2, rfl⟩ : ∃ c0 c1 c2, cs = [c0, c1, c2] := by match cs, hl with | [a, b, c], _ => exact ⟨a, b, c, rfl⟩
 obtain ⟨y0, y1, y2, rfl⟩ : ∃ y0 y1 y2, xs = [y0, y1, y2] := by match xs, hx with | [a, b, c], _ => exact ⟨a, b, c, rfl⟩
 have k3 : Tryd.prog.cellsOf 3 = 1 := by kernel_rfl
 have k9 : Tryd.prog.cellsOf 9 = 1 := by kernel_rfl
 have f0 : DataW.trod enc Tryd.prog w base spare held n 3 [c0] = some y0 := by have := hf 0 _ rfl; simpa [k3, k9] using this
 have f1 : DataW.trod enc Tryd.prog w base spare held n 3 [c1] = some y1 := by have := hf 1 _ rfl; simpa [k3, k9] using this
 have f2 : DataW.trod enc Tryd.prog w base spare held n 9 [c2] = some y2 := by have := hf 2 _ rfl; simpa [k3, k9] using this
 obtain ⟨s0, e0, _⟩ := DataW.trod_int Tryd.underlying3 f0
 obtain ⟨s1, e1, _⟩ := DataW.trod_int Tryd.underlying3 f1
 obtain ⟨s2, e2, _⟩ := DataW.trod_string Tryd.underlying9 f2
 simp at e0 e1 e2
 subst e0 e1 e2
 exact ⟨s0, s1, s2, rfl⟩
end
end Go.Proofs.YtbffmfeflcdgbaaDoor.Opens
