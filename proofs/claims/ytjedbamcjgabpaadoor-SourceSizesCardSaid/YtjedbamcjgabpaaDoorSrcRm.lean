/- source.readers, walked: a map of three functions; what a look-up in it finds. -/
import Derived.Test.YtjedbamcjgabpaaDoorSrcOr
import Derived.WideMake
set_option linter.unusedVariables false
set_option linter.unusedSimpArgs false
namespace Go.Proofs.YtjedbamcjgabpaaDoor.PSo
open Go Go.RowKit
open Go.Proofs.YtjedbamcjgabpaaDoorW.PrintWords
open Go.Proofs.YtjedbamcjgabpaaDoor.Src

def setObjW (w : World) (r : Nat) (o : Obj) : World := { w with heap := w.heap.setIfInBounds r o }
theorem run_put_absent {P : Program} {w : World} (mty kt et : TypeId) (r clock : Nat) (es : Array MapEntry) (s : ByteArray) (val : Value) (hm : P.underlying mty = some (.map kt et)) (hk : P.underlying kt = some .string) (hb : w.heap[r]? = some (.map es clock))
 (hf : Instr.findNow .string (.string s) es.toList 0 = some none) :
 (Instr.mapUpdate mty (.map (some r)) (.string s) val).run P w = .ok () (setObjW w r (.map (es.push { key := .string s, val := val, born := clock }) (clock + 1))) := by
 have hc : (Instr.checkKey false 10000 kt (.string s)).run P w = .ok () w := MapKept.run_checkKey (k := .string s) hk (by simp [MapKept.IsKey]) false 9999
 simp [Instr.mapUpdate, run_underlying hm, MapKept.run_getObj_map hb, hc, MapKept.run_findKey hk hf, MapKept.run_setObj_map _ hb, Result.andThen]
 rfl
theorem run_look {P : Program} {w : World} (mty kt et : TypeId) (r clock : Nat) (es : Array MapEntry) (s : ByteArray) (i : Nat) (v : Value) (hm : P.underlying mty = some (.map kt et)) (hk : P.underlying kt = some .string) (hb : w.heap[r]? = some (.map es clock))
 (hf : Instr.findNow .string (.string s) es.toList 0 = some (some (i, v))) :
 (Instr.lookup mty (.map (some r)) (.string s) true).run P w = .ok (.tuple #[v, .bool true]) w := by
 have hc : ∀ b, (Instr.checkKey b 10000 kt (.string s)).run P w = .ok () w := fun b => MapKept.run_checkKey (k := .string s) hk (by simp [MapKept.IsKey]) b 9999
 simp [Instr.lookup, run_underlying hm, MapKept.run_getObj_map hb, hc, MapKept.run_findKey hk hf, Result.andThen]
theorem run_look_none {P : Program} {w : World} (mty kt et : TypeId) (r clock : Nat) (es : Array MapEntry) (s : ByteArray) (z : Value) (hm : P.underlying mty = some (.map kt et)) (hk : P.underlying kt = some .string) (hb : w.heap[r]? = some (.map es clock))
 (hf : Instr.findNow .string (.string s) es.toList 0 = some none) (hz : (zeroValue et).run P w = .ok z w) :
 (Instr.lookup mty (.map (some r)) (.string s) true).run P w = .ok (.tuple #[z, .bool false]) w := by
 have hc : ∀ b, (Instr.checkKey b 10000 kt (.string s)).run P w = .ok () w := fun b => MapKept.run_checkKey (k := .string s) hk (by simp [MapKept.IsKey]) b 9999
 simp [Instr.lookup, run_underlying hm, MapKept.run_getObj_map hb, hc, MapKept.run_findKey hk hf, hz, Result.andThen]
theorem setObjW_at {w : World} {r : Nat} {o o' : Obj} (h : w.heap[r]? = some o') : (setObjW w r o).heap[r]? = some o := by
 have hr : r < w.heap.size := (Array.getElem?_eq_some_iff.1 h).1
 show (w.heap.setIfInBounds r o)[r]? = some o
 simp [hr]
theorem setObjW_below {B : Nat} {w W : World} (h : Below B w W) (r : Nat) (hr : B ≤ r) (o : Obj) : Below B w (setObjW W r o) :=
 ⟨h.os, h.tape, h.output, by show w.heap.size ≤ (W.heap.setIfInBounds r o).size; simpa using h.size, fun i hi => by
  show (W.heap.setIfInBounds r o)[i]? = _
  rw [Array.getElem?_setIfInBounds_ne (by omega)]
  exact h.block i hi⟩
/-- What the map holds. -/
def rdE1 : MapEntry := ⟨.string ⟨#[100, 97, 116, 97]⟩, .func (.func 62) #[] #[], 0⟩
def rdE2 : MapEntry := ⟨.string ⟨#[97, 116]⟩, .func (.func 64) #[] #[], 1⟩
def rdE3 : MapEntry := ⟨.string ⟨#[97, 100, 100, 114, 101, 115, 115]⟩, .func (.func 65) #[] #[], 2⟩
def rdM : Obj := .map #[rdE1, rdE2, rdE3] 3
set_option maxRecDepth 100000 in
theorem readers_calls (w : World) : Calls Tryd.prog 48 #[] w fun e w' => e = .returned (.map (some w.heap.size)) ∧ w'.heap[w.heap.size]? = some rdM ∧ Below w.heap.size w w' := by
 have hmm := @run_makeMap_plain Tryd.prog
 have h0 : (w.alloc (.map #[] 0)).heap[w.heap.size]? = some (.map #[] 0) := heap_alloc_new w _
 have h1 : (setObjW (w.alloc (.map #[] 0)) w.heap.size (.map #[rdE1] 1)).heap[w.heap.size]? = some (.map #[rdE1] 1) := setObjW_at h0
 have h2 : (setObjW (setObjW (w.alloc (.map #[] 0)) w.heap.size (.map #[rdE1] 1)) w.heap.size (.map #[rdE1, rdE2] 2)).heap[w.heap.size]? = some (.map #[rdE1, rdE2] 2) := setObjW_at h1
 have h3 : (setObjW (setObjW (setObjW (w.alloc (.map #[] 0)) w.heap.size (.map #[rdE1] 1)) w.heap.size (.map #[rdE1, rdE2] 2)) w.heap.size rdM).heap[w.heap.size]? = some rdM := setObjW_at h2
 have m1 : (Instr.mapUpdate 89 (.map (some w.heap.size)) (.string ⟨#[100, 97, 116, 97]⟩) (.func (.func 62) #[] #[])).run Tryd.prog (w.alloc (.map #[] 0)) = .ok () (setObjW (w.alloc (.map #[] 0)) w.heap.size (.map #[rdE1] 1)) := run_put_absent _ _ _ _ _ _ _ _ Tryd.underlying89 Tryd.underlying9 h0 (by kernel_rfl)
 have m2 : (Instr.mapUpdate 89 (.map (some w.heap.size)) (.string ⟨#[97, 116]⟩) (.func (.func 64) #[] #[])).run Tryd.prog (setObjW (w.alloc (.map #[] 0)) w.heap.size (.map #[rdE1] 1)) = .ok () (setObjW (setObjW (w.alloc (.map #[] 0)) w.heap.size (.map #[rdE1] 1)) w.heap.size (.map #[rdE1, rdE2] 2)) := run_put_absent _ _ _ _ _ _ _ _ Tryd.underlying89 Tryd.underlying9 h1 (by kernel_rfl)
 have m3 : (Instr.mapUpdate 89 (.map (some w.heap.size)) (.string ⟨#[97, 100, 100, 114, 101, 115, 115]⟩) (.func (.func 65) #[] #[])).run Tryd.prog (setObjW (setObjW (w.alloc (.map #[] 0)) w.heap.size (.map #[rdE1] 1)) w.heap.size (.map #[rdE1, rdE2] 2)) = .ok () (setObjW (setObjW (setObjW (w.alloc (.map #[] 0)) w.heap.size (.map #[rdE1] 1)) w.heap.size (.map #[rdE1, rdE2] 2)) w.heap.size rdM) := run_put_absent _ _ _ _ _ _ _ _ Tryd.underlying89 Tryd.underlying9 h2 (by kernel_rfl)
 have H3 := Aside0.mk h3
 have HB := Aside0.mk (setObjW_below (setObjW_below (setObjW_below (below_alloc (Below.refl w.heap.size w) (.map #[] 0)) w.heap.size (Nat.le_refl _) (.map #[rdE1] 1)) w.heap.size (Nat.le_refl _) (.map #[rdE1, rdE2] 2)) w.heap.size (Nat.le_refl _) rdM)
 clear h0 h1 h2 h3
 go_enter Tryd.func48, Tryd.ntmps48
 go_wp2
 go_ret
 exact ⟨rfl, H3.out, HB.out⟩
/-- What a look-up of a word finds. -/
def rdOfW (x : ByteArray) : Option FuncId := if x.toList = [100, 97, 116, 97] then some 62 else if x.toList = [97, 116] then some 64 else if x.toList = [97, 100, 100, 114, 101, 115, 115] then some 65 else none
theorem bs_eq (x : ByteArray) (l : List UInt8) : (x == (⟨l.toArray⟩ : ByteArray)) = decide (x.toList = l) := by
 rw [Bool.eq_iff_iff, MapKept.bytes_beq, decide_eq_true_eq]
 constructor
 ·rintro rfl; rw [Lib.toList_data]
 ·intro h; rw [Lib.toList_data] at h; rw [← Lib.mk_data x, h]
theorem find_now (x : ByteArray) : Instr.findNow .string (.string x) [rdE1, rdE2, rdE3] 0 = some (if x.toList = [100, 97, 116, 97] then some (0, .func (.func 62) #[] #[]) else if x.toList = [97, 116] then some (1, .func (.func 64) #[] #[]) else if x.toList = [97, 100, 100, 114, 101, 115, 115] then some (2, .func (.func 65) #[] #[]) else none) := by
 have a1 := bs_eq x [100, 97, 116, 97]
 have a2 := bs_eq x [97, 116]
 have a3 := bs_eq x [97, 100, 100, 114, 101, 115, 115]
 unfold Instr.findNow
 simp only [rdE1, Instr.sameNow, a1]
 by_cases h1 : x.toList = [100, 97, 116, 97]
 ·simp [h1]
 ·simp only [h1, decide_false, if_false]
  unfold Instr.findNow
  simp only [rdE2, Instr.sameNow, a2]
  by_cases h2 : x.toList = [97, 116]
  ·simp [h2]
  ·simp only [h2, decide_false, if_false]
   unfold Instr.findNow
   simp only [rdE3, Instr.sameNow, a3]
   by_cases h3 : x.toList = [97, 100, 100, 114, 101, 115, 115]
   ·simp [h3]
   ·simp [h3, Instr.findNow]
def lookV (x : ByteArray) : Value := match rdOfW x with
 | some f => .tuple #[.func (.func f) #[] #[], .bool true]
 | none => .tuple #[.nilFunc, .bool false]
theorem rd_look (x : ByteArray) (w : World) (b : Nat) (h : w.heap[b]? = some rdM) : (Instr.lookup 89 (.map (some b)) (.string x) true).run Tryd.prog w = .ok (lookV x) w := by
 have hf := find_now x
 unfold lookV rdOfW
 by_cases h1 : x.toList = [100, 97, 116, 97]
 ·rw [if_pos h1] at hf ⊢
  exact run_look _ _ _ _ _ _ _ _ _ Tryd.underlying89 Tryd.underlying9 h hf
 ·rw [if_neg h1] at hf ⊢
  by_cases h2 : x.toList = [97, 116]
  ·rw [if_pos h2] at hf ⊢
   exact run_look _ _ _ _ _ _ _ _ _ Tryd.underlying89 Tryd.underlying9 h hf
  ·rw [if_neg h2] at hf ⊢
   by_cases h3 : x.toList = [97, 100, 100, 114, 101, 115, 115]
   ·rw [if_pos h3] at hf ⊢
    exact run_look _ _ _ _ _ _ _ _ _ Tryd.underlying89 Tryd.underlying9 h hf
   ·rw [if_neg h3] at hf ⊢
    exact run_look_none _ _ _ _ _ _ _ _ Tryd.underlying89 Tryd.underlying9 h hf (by kernel_rfl)
end Go.Proofs.YtjedbamcjgabpaaDoor.PSo
