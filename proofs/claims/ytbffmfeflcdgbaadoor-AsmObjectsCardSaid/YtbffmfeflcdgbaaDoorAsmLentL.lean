/- copy into a row of the own, over any flat kind. -/
import Derived.Test.YtbffmfeflcdgbaaDoorAsmCln
import Derived.Laws.CopyRow
import Derived.Laws.CopyOwn
import Derived.Laws.MakeOwn
import Derived.Lib.Hide
set_option linter.unusedVariables false
set_option linter.unusedSimpArgs false
namespace Go.Proofs.YtbffmfeflcdgbaaDoor.LentL
open Go Go.RowKit
open Go.Proofs.YtbffmfeflcdgbaaDoorW.PrintWords

/-- copy, kept shut in a walk. -/
def copyG (ts : Array TypeId) (t : TypeId) (xs : Array Value) : Sem Value := Builtin.copy_ ts t xs
theorem copyG_eq (ts : Array TypeId) (t : TypeId) (xs : Array Value) : Builtin.copy_ ts t xs = copyG ts t xs := rfl

theorem run_copy_wide {P : Program} (w : World) (dT sT ty elem sz : Nat) (g o dLen dCap : Nat) (a : Addr) (sLen sCap : Nat) (cur : Array Value) (t : TypeId) (cs : List Value)
 (hu : P.underlying dT = some (.slice elem)) (hs : (P.info? elem).map (·.size) = some sz)
 (hg : w.heap[g]? = some (.cells cur t (0, 0))) (hn : cs.length = Nat.min sLen dLen * sz)
 (hsrc : ∀ j v, cs[j]? = some v → w.cell? (a.add j) = some v) (hfit : o + cs.length ≤ cur.size) (h1 : ∀ v ∈ cs, v.oneCell' = true) :
 (Builtin.copy_ #[dT, sT] ty #[.slice (some ⟨g, o, none⟩) dLen dCap, .slice (some a) sLen sCap]).run P w =
  .ok (goInt (Nat.min sLen dLen)) (w.setRow g (cur.toList.take o ++ cs ++ cur.toList.drop (o + cs.length)).toArray) := by
 have hl := run_loadCells_list (P := P) w a cs hsrc
 have hst := run_storeCells_at P g o t cs 0 cur w hg (by simpa using hfit) h1
 cases hq : P.info? elem with
 | none => simp [hq] at hs
 | some i =>
  have hi : i.size = sz := by simpa [hq] using hs
  simp [Builtin.copy_, run_underlying hu, Builtin.lenOf, Builtin.firstCells, sizeOf, typeInfo, hq, hi, ← hn, hl, hst]

theorem setRow_block (w : World) (g : Nat) (cs : Array Value) (cur : Array Value) (t : TypeId) (hg : w.heap[g]? = some (.cells cur t (0, 0))) : (w.setRow g cs).heap[g]? = some (.cells cs t (0, 0)) := setRow_heap w g cur cs t (0, 0) hg

theorem made_drop {z : Array Value} {sz : Nat} (hz : z.size = sz) (n m : Nat) : (madeCells z ((n + m) * sz)).toList.drop (n * sz) = (madeCells z (m * sz)).toList := by
 apply List.ext_getElem
 ·simp [size_madeCells, Nat.add_mul]
 intro i h1 h2
 simp [madeCells, hz, Nat.mul_add_mod_self_right]

section
variable {α : Type} (d : Kd α)

/-- What copy leaves: a row of the own, the rest zeros. -/
theorem lent_run {P : Program} (flat : ∀ {w w' : World} {base : Nat} {ok : Nat → Prop} {x : α} {cs : List Value}, d.K w x cs → d.M w' base ok x cs) (t ty e : TypeId) (z : Value) (bytes : Nat)
 (ht : P.underlying t = some (.slice e)) (hinfo : (P.info? e).map (fun i => (i.zero, i.size, i.bytes)) = some (some z, d.sz, bytes)) (hz : z.cells.size = d.sz) (hs0 : 0 < d.sz)
 (z0 : α) {w : World} (hzero : d.K w z0 z.cells.toList) (m : Nat) {A : Option Addr} {l : List α} (c : Nat) (hC : d.C w A l.length l) (hm : l.length + m ≤ maxLen) :
 ∃ W2, (copyG #[t, t] ty #[.slice (some ⟨w.heap.size, 0, none⟩) (l.length + m) (l.length + m), .slice A l.length c]).run P (w.alloc (.cells (madeCells z.cells ((l.length + m) * d.sz)) e)) = .ok (goInt l.length) W2 ∧
  d.R e W2 w.heap.size (fun _ => True) (.slice (some ⟨w.heap.size, 0, none⟩) (l.length + m) (l.length + m)) (l ++ List.replicate m z0) ∧ Below w.heap.size w W2 := by
 have hsz : (P.info? e).map (·.size) = some d.sz := by
  obtain ⟨i0, hi, hzz⟩ := Option.map_eq_some_iff.1 hinfo
  simp only [Prod.mk.injEq] at hzz
  rw [hi]; simp [hzz.2.1]
 have hnew : (w.alloc (.cells (madeCells z.cells ((l.length + m) * d.sz)) e)).heap[w.heap.size]? = some (.cells (madeCells z.cells ((l.length + m) * d.sz)) e (0, 0)) := heap_alloc_new w _
 have hrest : Reps (d.M w w.heap.size (fun k => True ∧ some k ≠ (Value.slice (some ⟨w.heap.size, 0, none⟩) (l.length + m) (l.length + m)).ownBlock)) d.sz (List.replicate m z0) (madeCells z.cells (m * d.sz)).toList := Kd.reps_made hz hs0 (flat hzero) m
 have key : ∀ (cs : List Value), cs.length = l.length * d.sz → Reps (d.K w) d.sz l cs → ∀ W2 : World, W2.heap[w.heap.size]? = some (.cells (cs ++ (madeCells z.cells ((l.length + m) * d.sz)).toList.drop cs.length).toArray e (0, 0)) →
  d.R e W2 w.heap.size (fun _ => True) (.slice (some ⟨w.heap.size, 0, none⟩) (l.length + m) (l.length + m)) (l ++ List.replicate m z0) := by
  intro cs hcs hreps W2 hW2
  have hdrop : (madeCells z.cells ((l.length + m) * d.sz)).toList.drop cs.length = (madeCells z.cells (m * d.sz)).toList := by
   rw [hcs]; exact made_drop hz _ _
  rw [hdrop] at hW2
  refine ⟨fun _ _ => trivial, cs ++ (madeCells z.cells (m * d.sz)).toList, ⟨?_, .inr ⟨w.heap.size, l.length + m, _, by simp, Nat.le_refl _, hW2, Nat.le_of_eq ?_, hm, ?_, ?_⟩⟩, Kd.reps_append (hreps.imp_ (fun _ _ h => flat h)) (Kd.reps_made hz hs0 (flat hzero) m)⟩
  ·rw [List.length_append, hcs]; simp [size_madeCells, Nat.add_mul]
  ·simp
  ·simp [hcs, size_madeCells, Nat.add_mul]
  rw [List.take_of_length_le]
  simp [hcs, size_madeCells, Nat.add_mul]
 cases A with
 | none =>
  have hl : l = [] := by
   cases l with
   | nil => rfl
   | cons x xs => obtain ⟨ad, e, _⟩ := hC.2.2 (by simp); cases e
  subst hl
  refine ⟨w.alloc (.cells (madeCells z.cells ((([] : List α).length + m) * d.sz)) e), ?_, key [] (by simp) (Reps.none _ _) _ ?_, below_alloc (Below.refl _ _) _⟩
  ·unfold copyG
   rw [show (Value.slice none ([] : List α).length c) = .slice none 0 c from rfl]
   cases hq : P.info? e with
   | none => simp [hq] at hsz
   | some i => simp [Builtin.copy_, run_underlying ht, Builtin.lenOf, Builtin.firstCells, sizeOf, typeInfo, hq, storeCells]
  ·simpa using hnew
 | some ad =>
  obtain ⟨cs, hreps, hcell⟩ := ReadsRow.inner_ hC
  have hcs := hreps.1
  have hmin : Nat.min l.length (l.length + m) = l.length := Nat.min_eq_left (by omega)
  have hrun := run_copy_wide (P := P) (w.alloc (.cells (madeCells z.cells ((l.length + m) * d.sz)) e)) t t ty e d.sz w.heap.size 0 (l.length + m) (l.length + m) ad l.length c _ e cs ht hsz hnew (by rw [hcs, hmin])
   (fun j v hj => by rw [(below_alloc (Below.refl w.heap.size w) _).cell (World.block_lt_of_cell? w _ (hcell j v hj))]; exact hcell j v hj) (by simp [size_madeCells, hcs, Nat.add_mul]) (fun v hv => Kd.reps_one hreps hs0 (fun _ _ h => d.K_one h) v hv)
  rw [hmin] at hrun
  refine ⟨_, hrun, ?_, ?_⟩
  ·exact key cs hcs hreps _ (by simpa using setRow_block _ _ _ _ _ hnew)
  exact below_setRow (below_alloc (Below.refl w.heap.size w) _) (Nat.le_refl _) _
end
end Go.Proofs.YtbffmfeflcdgbaaDoor.LentL
