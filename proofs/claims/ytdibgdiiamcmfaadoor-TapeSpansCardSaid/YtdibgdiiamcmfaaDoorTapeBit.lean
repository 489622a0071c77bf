/- (*tape.reader).bit: one wave, read: a bit, or what is wrong and where. -/
import Derived.Test.YtdibgdiiamcmfaaDoorPTapex0
import Derived.RangeFuncBox
import Derived.Lib.Hide
import Derived.RegionTactic
import Derived.ChangeAlike
import Derived.BigRegion
import Derived.Outline
import Derived.IntWalk
set_option linter.unusedVariables false
set_option linter.unusedSimpArgs false
namespace Go.Proofs.YtdibgdiiamcmfaaDoor.Reader
open Go.RowKit
open Go.Proofs.YtdibgdiiamcmfaaDoorW.PrintWords Go.Proofs.YtdibgdiiamcmfaaDoor.PTape

/-- The reader: waves that are read, and how far it has come. -/
def At (A : Option Addr) (c : Nat) (l : List S37) (g : Nat) (i : Int) (w : World) : Prop := w.heap[g]? = some (.cells #[.slice A l.length c, .int .i64 i] 59 (0, 0))
/-- What a step of the reader keeps. -/
def Keeps (n0 g : Nat) (w w' : World) : Prop := n0 ≤ w.heap.size ∧ Below n0 w w' ∧ KeepBut w w' g none
section
variable {n0 g : Nat} {w w1 w2 : World}
theorem Keeps.refl (w : World) (h : n0 ≤ w.heap.size) : Keeps n0 g w w := ⟨h, Below.refl _ _, KeepBut.refl _ _ _⟩
theorem Keeps.drew (h : Keeps n0 g w w1) : Keeps n0 g w w1.drew := ⟨h.1, below_drew1 h.2.1, keep_drew h.2.2⟩
theorem Keeps.drewN (h : Keeps n0 g w w1) (k : Nat) : Keeps n0 g w (w1.drewN k) := ⟨h.1, pw_below_drewN h.2.1 k, keep_drewN h.2.2 k⟩
theorem Keeps.alloc (h : Keeps n0 g w w1) (o : Obj) : Keeps n0 g w (w1.alloc o) := ⟨h.1, h.2.1.alloc (Nat.le_trans h.1 h.2.2.1) o, keep_alloc h.2.2 o⟩
theorem Keeps.set (h : Keeps n0 g w w1) (hg : n0 ≤ g) (j : Nat) (u : Value) : Keeps n0 g w (w1.setCell ⟨g, j, none⟩ u) := ⟨h.1, h.2.1.setCell (p := ⟨g, j, none⟩) hg u, h.2.2.set_ j u⟩
theorem Keeps.trans (h : Keeps n0 g w w1) (k : Keeps n0 g w1 w2) : Keeps n0 g w w2 := ⟨h.1, h.2.1.trans k.2.1, h.2.2.trans k.2.2 (.inl rfl)⟩
theorem Keeps.blk {t : TypeId} {cs : Array Value} {q : Nat} (h : Keeps n0 g w w1) (hb : w.heap[q]? = some (.cells cs t (0, 0))) (hq : q ≠ g) : w1.heap[q]? = some (.cells cs t (0, 0)) := h.2.2.blk hb hq (by simp)
end
/-- A fault, new in memory. -/
def Fault (e i : Int) (v : Value) (w : World) : Prop := ∃ q, v = .iface 64 (.pointer (some ⟨q, 0, none⟩)) ∧ w.heap[q]? = some (.cells #[.int .i64 e, .int .i64 i] 68 (0, 0))

set_option maxRecDepth 100000 in
set_option maxHeartbeats 1000000 in
theorem bit_end (A : Option Addr) (c : Nat) (l : List S37) (g n0 : Nat) (w : World) (hr : At A c l g l.length w) (hn : n0 ≤ g) :
    Calls Tryd.prog 33 #[.pointer (some ⟨g, 0, none⟩)] w fun e w' => ∃ v, e = .returned (.tuple #[.bool false, v]) ∧ Fault 122 l.length v w' ∧ Keeps n0 g w w' := by
  have hgl : g < w.heap.size := blk_lt hr
  have hc0 : w.cell? ⟨g, 0, none⟩ = some (.slice A l.length c) := (blk_cell hr 0).trans rfl
  have hc1 : w.cell? ⟨g, 1, none⟩ = some (.int .i64 l.length) := (blk_cell hr 1).trans rfl
  have HR := Lib.hid hr
  clear hr
  go_enter Tryd.func33, Tryd.ntmps33
  go_wp2
  go_region
  all_goals go_wp2
  go_region
  all_goals
    go_wp2
    go_ret2
    refine ⟨_, rfl, ⟨_, rfl, World.alloc_heap_new w _⟩, ?_⟩
    (repeat (first | exact Keeps.refl _ (by omega) | apply Keeps.drew | apply Keeps.alloc))

theorem heap_new2 (w : World) (o o' : Obj) : ((w.alloc o).alloc o').heap[w.heap.size + 1]? = some o' := by
  have := World.alloc_heap_new (w.alloc o) o'
  rwa [World.size_alloc] at this
def bitVal (x : S37) : Option Bool :=
  if x.f0 < 1 then none else if x.f1 < 1 then none else if x.f0 > 800 then none else if x.f1 > 800 then none else if x.f0 + x.f1 < 40 then none else if x.f0 + x.f1 > 800 then none else some (decide (x.f0 + x.f1 > 195))

set_option maxRecDepth 100000 in
set_option maxHeartbeats 4000000 in
theorem bit_one (A : Option Addr) (c : Nat) (l : List S37) (g : Nat) (i : Nat) (w0 w : World) (hr0 : Kd.C k37 w0 A l.length l) (hc0 : l.length ≤ c) (hB : Below w0.heap.size w0 w) (hn : w0.heap.size ≤ g) (hr : At A c l g i w) (hi : i < l.length) (x : S37) (hx : l[i]? = some x) :
    Calls Tryd.prog 33 #[.pointer (some ⟨g, 0, none⟩)] w fun e w' => Keeps w0.heap.size g w w' ∧
      match bitVal x with
      | none => ∃ v, e = .returned (.tuple #[.bool false, v]) ∧ Fault 120 i v w'
      | some b => e = .returned (.tuple #[.bool b, .nilIface]) ∧ At A c l g (i + 1) w' := by
  have hgl : g < w.heap.size := blk_lt hr
  have hg0 : w.cell? ⟨g, 0, none⟩ = some (.slice A l.length c) := (blk_cell hr 0).trans rfl
  have hg1 : w.cell? ⟨g, 1, none⟩ = some (.int .i64 i) := (blk_cell hr 1).trans rfl
  have hgz : w.frozen? ⟨g, 1, none⟩ = false := blk_frozen hr 1
  obtain ⟨ad, rfl, h1, h2⟩ := at_T37 (Kd.C_below hr0 hB) (i : Int) (by omega) (by omega)
  have hrd : rd_T37 l (i : Int) = x := by simp [rd_T37, hx]
  rw [hrd, Int.toNat_natCast] at h1 h2
  have hbl := World.block_lt_of_cell? w _ h1
  have k1 := (World.cell?_alloc_lt w (.cells #[.int .i64 0, .int .i64 0] 37) _ hbl).trans h1
  have k2 := (World.cell?_alloc_lt w (.cells #[.int .i64 0, .int .i64 0] 37) _ (World.block_lt_of_cell? w _ h2)).trans h2
  have hm : l.length ≤ 9223372036854775807 := hr0.2.1
  have HR := Lib.hid hr
  have HX := Lib.hid hx
  clear hr hx hrd hr0
  have hb0 := hB.size
  clear hB
  by_cases c1 : x.f0 < 1
  · have hv : bitVal x = none := by simp [bitVal, c1]
    rw [hv]
    clear hv
    go_enter Tryd.func33, Tryd.ntmps33
    go_wp2
    go_region
    all_goals go_wp2
    go_region
    all_goals go_wp2
    all_goals go_region
    all_goals
      go_wp2
      go_ret2
      refine ⟨?_, _, rfl, _, rfl, ?_⟩
      · (repeat (first | exact Keeps.refl _ (by omega) | apply Keeps.drew | apply Keeps.alloc))
      · exact heap_new2 w _ _
  · skip
    by_cases c2 : x.f1 < 1
    · have hv : bitVal x = none := by simp [bitVal, c1, c2]
      rw [hv]
      clear hv
      go_enter Tryd.func33, Tryd.ntmps33
      go_wp2
      go_region
      all_goals go_wp2
      go_region
      all_goals go_wp2
      all_goals go_region
      all_goals
        go_wp2
        go_ret2
        refine ⟨?_, _, rfl, _, rfl, ?_⟩
        · (repeat (first | exact Keeps.refl _ (by omega) | apply Keeps.drew | apply Keeps.alloc))
        · exact heap_new2 w _ _
    · skip
      by_cases c3 : x.f0 > 800
      · have hv : bitVal x = none := by simp [bitVal, c1, c2, c3]
        rw [hv]
        clear hv
        go_enter Tryd.func33, Tryd.ntmps33
        go_wp2
        go_region
        all_goals go_wp2
        go_region
        all_goals go_wp2
        all_goals go_region
        all_goals
          go_wp2
          go_ret2
          refine ⟨?_, _, rfl, _, rfl, ?_⟩
          · (repeat (first | exact Keeps.refl _ (by omega) | apply Keeps.drew | apply Keeps.alloc))
          · exact heap_new2 w _ _
      · skip
        by_cases c4 : x.f1 > 800
        · have hv : bitVal x = none := by simp [bitVal, c1, c2, c3, c4]
          rw [hv]
          clear hv
          go_enter Tryd.func33, Tryd.ntmps33
          go_wp2
          go_region
          all_goals go_wp2
          go_region
          all_goals go_wp2
          all_goals go_region
          all_goals
            go_wp2
            go_ret2
            refine ⟨?_, _, rfl, _, rfl, ?_⟩
            · (repeat (first | exact Keeps.refl _ (by omega) | apply Keeps.drew | apply Keeps.alloc))
            · exact heap_new2 w _ _
        · skip
          by_cases c5 : x.f0 + x.f1 < 40
          · have hv : bitVal x = none := by simp [bitVal, c1, c2, c3, c4, c5]
            rw [hv]
            clear hv
            go_enter Tryd.func33, Tryd.ntmps33
            go_wp2
            go_region
            all_goals go_wp2
            go_region
            all_goals go_wp2
            all_goals go_region
            all_goals
              go_wp2
              go_ret2
              refine ⟨?_, _, rfl, _, rfl, ?_⟩
              · (repeat (first | exact Keeps.refl _ (by omega) | apply Keeps.drew | apply Keeps.alloc))
              · exact heap_new2 w _ _
          · skip
            by_cases c6 : x.f0 + x.f1 > 800
            · have hv : bitVal x = none := by simp [bitVal, c1, c2, c3, c4, c5, c6]
              rw [hv]
              clear hv
              go_enter Tryd.func33, Tryd.ntmps33
              go_wp2
              go_region
              all_goals go_wp2
              go_region
              all_goals go_wp2
              all_goals go_region
              all_goals
                go_wp2
                go_ret2
                refine ⟨?_, _, rfl, _, rfl, ?_⟩
                · (repeat (first | exact Keeps.refl _ (by omega) | apply Keeps.drew | apply Keeps.alloc))
                · exact heap_new2 w _ _
            · skip
              have hv : bitVal x = some (decide (x.f0 + x.f1 > 195)) := by simp [bitVal, c1, c2, c3, c4, c5, c6]
              rw [hv]
              clear hv
              have hw : IntKind.i64.wrap (↑i + 1) = (↑i + 1 : Int) := IntWalk.i64_in _ (by omega)
              have HW := Lib.hid hw
              clear hw
              go_enter Tryd.func33, Tryd.ntmps33
              go_wp2
              go_region
              all_goals go_wp2
              go_region
              all_goals
                go_wp2
                go_ret2
                refine ⟨?_, rfl, ?_⟩
                · (repeat (first | exact Keeps.refl _ (by omega) | apply Keeps.drew | apply Keeps.alloc | refine Keeps.set ?_ hn _ _))
                · exact blk_alloc (blk_put HR.out 1 _ rfl) _
end Go.Proofs.YtdibgdiiamcmfaaDoor.Reader
