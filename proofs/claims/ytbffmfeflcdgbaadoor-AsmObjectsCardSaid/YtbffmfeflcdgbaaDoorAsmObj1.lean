/- vesperlaw14.object -/
import Derived.Test.YtbffmfeflcdgbaaDoorAsmRoom
set_option linter.unusedVariables false
set_option linter.unusedSimpArgs false
namespace Go.Proofs.YtbffmfeflcdgbaaDoor.Obj
open Go Go.RowKit
open Go.Proofs.YtbffmfeflcdgbaaDoorW.PrintWords Go.Proofs.YtbffmfeflcdgbaaDoor.POb Go.Proofs.YtbffmfeflcdgbaaDoor.LentL Go.Proofs.YtbffmfeflcdgbaaDoor.Room

abbrev z42v : Value := .agg #[.int .i64 0, .slice none 0 0]
abbrev z52v : Value := .agg #[.int .i64 0, .int .i64 0, .bool false]
abbrev z47v : Value := .agg #[.string ⟨#[]⟩, .int .i64 0]
theorem info42 : (Tryd.prog.info? 42).map (fun i => (i.zero, i.size, i.bytes)) = some (some z42v, 2, 32) := by kernel_rfl
theorem info52 : (Tryd.prog.info? 52).map (fun i => (i.zero, i.size, i.bytes)) = some (some z52v, 3, 24) := by kernel_rfl
theorem info47 : (Tryd.prog.info? 47).map (fun i => (i.zero, i.size, i.bytes)) = some (some z47v, 2, 24) := by kernel_rfl

theorem makeE (T E : TypeId) (z : Value) (sz b : Nat) (hT : Tryd.prog.underlying T = some (.slice E)) (hinfo : (Tryd.prog.info? E).map (fun i => (i.zero, i.size, i.bytes)) = some (some z, sz, b)) (hb : b ≤ 100) (n : Nat) (hn : n ≤ 1000000000000) (W : World) :
 (Instr.makeSlice T (.int .i64 0) (.int .i64 ((n : Int) + 2))).run Tryd.prog W = .ok (.slice (some ⟨W.heap.size, 0, none⟩) 0 (n + 2)) (W.alloc (.cells (madeCells z.cells ((n + 2) * sz)) E)) := by
 obtain ⟨i0, hi, hzz⟩ := Option.map_eq_some_iff.1 hinfo
 simp only [Prod.mk.injEq] at hzz
 obtain ⟨hz0, hz1, hz2⟩ := hzz
 have h := run_make (P := Tryd.prog) (w := W) T E i0 _ hT hi hz0 .i64 .i64 0 ((n : Int) + 2) (by omega) (by omega) (by rw [hz2]; have : (b : Int) * ((n : Int) + 2) ≤ 100 * ((n : Int) + 2) := Int.mul_le_mul_of_nonneg_right (by omega) (by omega); omega) (by omega)
 rw [hz1, show ((n : Int) + 2).toNat = n + 2 by omega] at h
 exact h

def appR (t : TypeId) (A : Option Addr) (n c g cap : Nat) : Sem Value := Builtin.append_ #[t, t] t #[.slice (some ⟨g, 0, none⟩) 0 cap, .slice A n c]
theorem app_made {α : Type} (d : Kd α) (flat : ∀ {w w' : World} {base : Nat} {ok : Nat → Prop} {x : α} {cs : List Value}, d.K w x cs → d.M w' base ok x cs) (t e : TypeId) (z : Value) (bytes : Nat) (h1 : Tryd.prog.underlying t = some (.slice e)) (hinfo : (Tryd.prog.info? e).map (fun i => (i.zero, i.size, i.bytes)) = some (some z, d.sz, bytes)) (hs0 : 0 < d.sz) (hz : z.cells.size = d.sz)
 {w : World} {A : Option Addr} {l : List α} (c : Nat) (hC : d.C w A l.length l) (cap : Nat) (hcap : l.length ≤ cap) (hm : cap ≤ maxLen) :
 ∃ row : Array Value, (∀ (W : World) (g : Nat), Below w.heap.size w W → W.heap[g]? = some (.cells (madeCells z.cells (cap * d.sz)) e (0, 0)) → (appR t A l.length c g cap).run Tryd.prog W = .ok (.slice (some ⟨g, 0, none⟩) l.length cap) (W.setRow g row)) ∧
  ∀ (W : World) (g : Nat) , W.heap[g]? = some (.cells row e (0, 0)) → ∀ base, base ≤ g → d.R e W base (fun _ => True) (.slice (some ⟨g, 0, none⟩) l.length cap) l := by
 obtain ⟨i0, hi, hzz⟩ := Option.map_eq_some_iff.1 hinfo
 simp only [Prod.mk.injEq] at hzz
 cases A with
 | none =>
  have hl : l = [] := by
   cases l with
   | nil => rfl
   | cons x xs => obtain ⟨ad, e, _⟩ := hC.2.2 (by simp); cases e
  subst hl
  refine ⟨madeCells z.cells (cap * d.sz), fun W g hb hh => ?_, fun W g hh base hg => ?_⟩
  ·have hset : W.setRow g (madeCells z.cells (cap * d.sz)) = W := by
    exact setRow_self W g _ _ _ hh
   rw [hset]
   simp [appR, Builtin.append_, run_underlying h1, sizeOf, typeInfo, hi, Builtin.lenOf, Builtin.firstCells, loadCells, loadCellsFrom, storeCells]
  ·exact ⟨fun _ _ => trivial, [], ⟨by simp, .inr ⟨g, cap, _, rfl, hg, hh, Nat.zero_le _, hm, by simp [size_madeCells], by simp⟩⟩, Reps.none _ _⟩
 | some ad =>
  obtain ⟨cs, hreps, hcell⟩ := ReadsRow.inner_ hC
  have hcs := hreps.1
  have hle : l.length * d.sz ≤ cap * d.sz := Nat.mul_le_mul_right _ hcap
  refine ⟨(cs ++ (madeCells z.cells (cap * d.sz)).toList.drop cs.length).toArray, fun W g hb hh => ?_, fun W g hh base hg => ?_⟩
  ·have h := run_append_room (P := Tryd.prog) W t t e i0 h1 hi g 0 cap _ hh ad l.length c cs (by rw [hcs, hzz.2.1]) (fun j v hj => by rw [hb.cell (World.block_lt_of_cell? w _ (hcell j v hj))]; exact hcell j v hj) (fun v hv => Kd.reps_one hreps hs0 (fun _ _ h => d.K_one h) v hv) (by omega) (by simp [size_madeCells, hcs]; omega)
   simpa [appR] using h
  refine ⟨fun _ _ => trivial, cs, ⟨by rw [hcs], .inr ⟨g, cap, _, rfl, hg, hh, hcap, hm, ?_, ?_⟩⟩, hreps.imp_ (fun _ _ h => flat h)⟩
  ·simp [hcs, size_madeCells]; omega
  generalize (madeCells z.cells (cap * d.sz)).toList.drop cs.length = rest
  rw [← hcs]
  exact List.take_left
end Go.Proofs.YtbffmfeflcdgbaaDoor.Obj
