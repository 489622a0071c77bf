/- asm.Check: a map of the names that were seen; and the walk. -/
import Derived.Test.YtbffmfeflcdgbaaDoorAsmNd
import Derived.Test.YtbffmfeflcdgbaaDoorPObx6
import Derived.Maps.Own
import Derived.Maps.Views
import Derived.Lib.Hide
import Derived.Deep.RegionHeld3
set_option linter.unusedVariables false
set_option linter.unusedSimpArgs false
namespace Go.Proofs.YtbffmfeflcdgbaaDoor.Chk
open Go Go.RowKit Go.Maps Go.WideMaps
open Go.Proofs.YtbffmfeflcdgbaaDoorW.PrintWords Go.Proofs.YtbffmfeflcdgbaaDoor.POb Go.Proofs.YtbffmfeflcdgbaaDoor.Nm
open Go.Proofs.YtbffmfeflcdgbaaDoor.Code (GOk)

theorem law9 : Keyed Tryd.prog 9 := string_keyed Tryd.underlying9
theorem zero3 (w : World) : (zeroValue 3).run Tryd.prog w = .ok (.int .i64 0) w := by kernel_rfl
def seenV (s : ByteArray) (seen : List (List UInt8)) : Int := if s.data.toList ∈ seen then 1 else 0
def MapIs (W : World) (B n : Nat) (seen : List (List UInt8)) : Prop := ∃ D : DataW Unit, W.ownsMap Tryd.prog 9 (plainElem Tryd.prog 3) B n D ∧ IsMap D ∧ ∀ s : ByteArray, D.atKey (.string s.data.toList) (.lit (.int .i64 0)) = .lit (.int .i64 (seenV s seen))

theorem below_grown {w w1 : World} (h : Below w.heap.size w w1) (row : Option Nat) : w.grownBy w1 row := ⟨h.os, h.tape, h.output, h.size, fun k hk _ => h.block k hk⟩
theorem MapIs.made (w : World) : MapIs (w.alloc (.map #[] 0)) w.heap.size 0 [] :=
 ⟨.map [], World.ownsMap_made _ _ _ _, isMap_empty, fun s => by simp [seenV]; rfl⟩
theorem MapIs.below {W W1 : World} {B n : Nat} {seen : List (List UInt8)} (h : MapIs W B n seen) (hb : Below W.heap.size W W1) : MapIs W1 B n seen := by
 obtain ⟨D, h1, h2, h3⟩ := h
 exact ⟨D, h1.kept (below_grown hb none) (by simp), h2, h3⟩
set_option maxRecDepth 100000 in
theorem MapIs.look {W : World} {B n : Nat} {seen : List (List UInt8)} (h : MapIs W B n seen) {s : ByteArray} (hs : s.size ≤ maxLen) :
 (Instr.lookup 45 (.map (some B)) (.string s) false).run Tryd.prog W = .ok (.int .i64 (seenV s seen)) W := by
 obtain ⟨D, h1, h2, h3⟩ := h
 obtain ⟨c, hrun, hat, _⟩ := h1.lookup_int law9 Tryd.underlying45 Tryd.underlying3 (zero3 _) (keyOf_string_mk Tryd.underlying9 hs)
 have h4 := (h3 s).symm.trans hat
 injection h4 with h5
 injection h5 with _ h6
 rw [h6]; exact hrun
set_option maxRecDepth 100000 in
theorem MapIs.put {W : World} {B n : Nat} {seen : List (List UInt8)} (h : MapIs W B n seen) (hn : n < maxLen) {s : ByteArray} (hs : s.size ≤ maxLen) :
 ∃ w', (Instr.mapUpdate 45 (.map (some B)) (.string s) (.int .i64 1)).run Tryd.prog W = .ok () w' ∧ MapIs w' B (n + 1) (s.data.toList :: seen) ∧ W.grownBy w' (some B) := by
 obtain ⟨D, h1, h2, h3⟩ := h
 obtain ⟨w', hrun, hown, hg⟩ := h1.update law9 Tryd.underlying45 hn (keyOf_string_mk Tryd.underlying9 hs) (plainElem_int Tryd.underlying3 (show (Lit.int .i64 1).wf = true by decide))
 refine ⟨w', hrun, ⟨_, hown, h2.put _ _, fun t => ?_⟩, hg⟩
 by_cases e : t.data.toList = s.data.toList
 ·rw [e]
  rw [atKey_put_same h2 (by exact trivial)]
  unfold seenV
  rw [if_pos (by rw [e]; exact List.mem_cons_self)]
 have hne : Lit.string t.data.toList ≠ Lit.string s.data.toList := fun h => e (by injection h)
 rw [atKey_put_other hne, h3 t]
 simp [seenV, e]
/-! ### What is asked of blocks, of labels -/
def badB (e : Int) (b : S42) : Bool := decide (b.f0 ≤ e) || decide (b.f0 < 0) || decide ((b.f1.length : Int) = 0) || decide (b.f0 ≥ 65536) || decide ((b.f1.length : Int) > 65536 - b.f0)
def blocksB : Int → List S42 → Bool
 | _, [] => true
 | e, b :: r => !badB e b && blocksB (b.f0 + (b.f1.length : Int)) r
def badL (seen : List (List UInt8)) (p : Option S47) (l : S47) : Bool :=
 !nameB l.f0 || decide (l.f1 < 0) || decide (l.f1 ≥ 65536) || decide (l.f0.data.toList ∈ seen) || (match p with
  | none => false
  | some q => decide (ordR (cmpI q.f1 l.f1) (Lib.compareBytes q.f0.data.toList l.f0.data.toList) > 0))
def labelsB : List (List UInt8) → Option S47 → List S47 → Bool
 | _, _, [] => true
 | seen, p, l :: r => !badL seen p l && labelsB (l.f0.data.toList :: seen) (some l) r

theorem nameB_size {s : ByteArray} (h : nameB s = true) : s.size ≤ 16 := by
 unfold nameB at h
 rw [Lib.size_eq]
 cases hd : s.data.toList with
 | nil => simp
 | cons c r =>
  rw [hd] at h
  simp only [Bool.and_eq_true, decide_eq_true_eq] at h
  simp only [List.length_cons]
  omega
end Go.Proofs.YtbffmfeflcdgbaaDoor.Chk
