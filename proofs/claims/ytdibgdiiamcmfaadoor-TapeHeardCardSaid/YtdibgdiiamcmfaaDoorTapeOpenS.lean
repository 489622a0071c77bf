/- A slice that came in, opened as a row of any kind; and of spans. -/
import Derived.Test.YtdibgdiiamcmfaaDoorTapeOpen
set_option linter.unusedVariables false
set_option linter.unusedSimpArgs false
namespace Go.Proofs.YtdibgdiiamcmfaaDoor.Opens
open Go Go.ChangeShapes Go.WideShapes Go.RowKit
open Go.Proofs.YtdibgdiiamcmfaaDoorW.PrintWords Go.Proofs.YtdibgdiiamcmfaaDoor.PTape
section
variable {H : Type} {enc : TypeId × Value → H} {w : World} {base : Nat} {spare : Nat → Bool} {held : Bool} {fuel : Nat} {cs : List Value} {x : DataW H × List MemPlace}

theorem C_open {P : Program} {α : Type} (d : Kd α) [Inhabited α] {t e : TypeId} (ht : P.underlying t = some (.slice e)) (hsz : P.cellsOf e = d.sz)
    (hel : ∀ n cs y, DataW.trod enc P w base spare held n e cs = some y → ∃ p, d.K w p cs) (h : DataW.trod enc P w base spare held fuel t cs = some x) :
    ∃ (A : Option Addr) (c : Nat) (l : List α), cs = [.slice A l.length c] ∧ d.C w A l.length l ∧ l.length ≤ c := by
  rcases Deep.open_slice ht h with ⟨rfl, _⟩ | ⟨a, len, c, m, n, D, Pl, rfl, _, hl, hm, hmm, _, hv⟩
  · exact ⟨none, 0, [], rfl, Kd.C_nil _ _, Nat.le_refl _⟩
  · have hlm : len ≤ m := by rw [hmm]; split <;> omega
    have each : ∀ i, i < len → ∃ q : α × List Value, w.cells? base (a.add (i * P.cellsOf e)) (P.cellsOf e) = some q.2 ∧ d.K w q.1 q.2 := by
      intro i hi
      obtain ⟨cs', h1, h2⟩ := hv i (by omega)
      obtain ⟨p, hp⟩ := hel _ _ _ h2
      exact ⟨(p, cs'), h1, hp⟩
    obtain ⟨q, hq⟩ := Deep.choose_lt (α := α × List Value) each
    have hlen : ((List.range len).map fun i => (q i).1).length = len := by simp
    refine ⟨some a, c, (List.range len).map fun i => (q i).1, by rw [hlen], ?_, by omega⟩
    rw [hlen]
    refine ⟨hlen, by have := hm; simp only [maxLen] at this; omega, fun _ => ⟨a, rfl, fun j p hj => ?_⟩⟩
    have hjl : j < len := by have := (List.getElem?_eq_some_iff.mp hj).1; omega
    rw [List.getElem?_map, List.getElem?_range hjl] at hj
    simp only [Option.map_some, Option.some.injEq] at hj
    subst hj
    obtain ⟨h1, h2⟩ := hq j hjl
    obtain ⟨_, hcl, hcell⟩ := World.cells?_some h1
    refine ⟨(q j).2, by rw [hcl, hsz], h2, fun i u hu => ?_⟩
    have hi := (List.getElem?_eq_some_iff.mp hu).1
    have := hcell i (by omega)
    rw [Deep.add_add, hsz] at this
    rw [this, hu]

theorem spans_open (h : DataW.trod enc Tryd.prog w base spare held fuel 39 cs = some x) :
    ∃ (A : Option Addr) (c : Nat) (l : List S44), cs = [.slice A l.length c] ∧ Kd.C k44 w A l.length l ∧ l.length ≤ c := by
  haveI : Inhabited S44 := ⟨z44⟩
  refine C_open k44 Tryd.underlying39 (by kernel_rfl) (fun n cs y hy => ?_) h
  obtain ⟨s0, s1, s2, s3, s4, s5, s6, s7, s8, s9, rfl⟩ := span_open hy
  exact ⟨⟨s0, s1, s2, s3, s4, s5, s6, s7, s8, s9⟩, k44_mk w _⟩
end
end Go.Proofs.YtdibgdiiamcmfaaDoor.Opens
