/- errors.As at a nil error, and at an error that is a *tape.fault. -/
import Derived.Test.YtdibgdiiamcmfaaDoorTapeAs0
import Derived.WalkLawsBesides
import Derived.WalkSpells
import Derived.Outline
set_option linter.unusedVariables false
set_option linter.unusedSimpArgs false
namespace Go.Proofs.YtdibgdiiamcmfaaDoor.As
open Go.RowKit
open Go.Proofs.YtdibgdiiamcmfaaDoorW.PrintWords

theorem as_nil (t : Value) (w : World) : Calls Tryd.prog 28 #[.nilIface, t] w fun e w' => e = .returned (.bool false) ∧ w = w' := by
  go_enter Tryd.func28, Tryd.ntmps28
  go_wp2
  go_ret
  exact ⟨rfl, rfl⟩

theorem cell_alloc {W : World} {q : Addr} {v : Value} (o : Obj) (h : W.cell? q = some v) : (W.alloc o).cell? q = some v :=
  (World.cell?_alloc_lt W o q (World.block_lt_of_cell? W q h)).trans h
theorem frozen_alloc {W : World} {q : Addr} {v : Value} (o : Obj) (h : W.cell? q = some v) (hz : W.frozen? q = false) : (W.alloc o).frozen? q = false := by
  have hq := World.block_lt_of_cell? W q h
  have : (W.alloc o).heap[q.block]? = W.heap[q.block]? := Below.heap_alloc W o q.block hq
  unfold World.frozen? at hz ⊢
  rw [this]; exact hz
theorem cell_new1 (W : World) (v : Value) (t : TypeId) (n : Nat) (hn : W.heap.size = n) : (W.alloc (.cells #[v] t)).cell? ⟨n, 0, none⟩ = some v := by
  subst hn; rw [cell_of_row _ _ _ _ _ _ (World.alloc_heap_new W _)]; rfl

set_option maxRecDepth 100000 in
set_option maxHeartbeats 1000000 in
theorem as_in (a f p : Addr) (w : World) (hp : w.cell? p = some (.pointer (some f))) (v : Value) (hf : w.cell? f = some v) (hz : w.frozen? f = false) :
    Calls Tryd.prog 37 #[.iface 64 (.pointer (some a)), .iface 66 (.pointer (some f)), .agg #[.pointer (some ⟨1, 66, none⟩), .pointer (some p), .int .u64 150], .iface 91 (.agg #[.pointer (some ⟨1, 64, none⟩)])] w
      fun e w' => e = .returned (.bool true) ∧ w' = ((w.alloc (.cells #[.pointer (some ⟨1, 66, none⟩), .pointer (some p), .int .u64 150] 78)).alloc (.cells #[.pointer (some a)] 64)).setCell f (.pointer (some a)) := by
  have hp1 := cell_alloc (.cells #[.pointer (some ⟨1, 66, none⟩), .pointer (some p), .int .u64 150] 78) hp
  have hf1 := cell_alloc (.cells #[.pointer (some ⟨1, 66, none⟩), .pointer (some p), .int .u64 150] 78) hf
  have hz1 := frozen_alloc (.cells #[.pointer (some ⟨1, 66, none⟩), .pointer (some p), .int .u64 150] 78) hf hz
  have hf2 := cell_alloc (.cells #[.pointer (some a)] 64) hf1
  have hz2 := frozen_alloc (.cells #[.pointer (some a)] 64) hf1 hz1
  have hq2 := cell_new1 (w.alloc (.cells #[.pointer (some ⟨1, 66, none⟩), .pointer (some p), .int .u64 150] 78)) (.pointer (some a)) 64 (w.heap.size + 1) (World.size_alloc _ _)
  have h40 := fun W => c40 a W
  have hmA := mA
  have hfA := fA
  have h41 := c41 p f _ hp1
  have h34 := fun W => c34b a W
  have h42 := c42 ⟨w.heap.size + 1, 0, none⟩ f a _ hq2 (by rw [hf2]; rfl) hz2
  simp only [rt, rv66, rv64, rv64a, hd] at h40 hmA hfA h41 h34 h42
  clear hp1 hf1 hz1 hf2 hz2 hq2 hp hf hz
  go_enter Tryd.func37, Tryd.ntmps37
  go_wp2
  refine wp_loop_rounds 1 ?_
  rw [rounds_succ]
  go_wp2
  go_ret
  exact ⟨rfl, rfl⟩

set_option maxRecDepth 100000 in
set_option maxHeartbeats 1000000 in
theorem as_fault (a f : Addr) (w : World) (v : Value) (hf : w.cell? f = some v) (hz : w.frozen? f = false) (hg : w.cell? ⟨0, 0, none⟩ = some (.iface 91 (.agg #[.pointer (some ⟨1, 61, none⟩)]))) :
    Calls Tryd.prog 28 #[.iface 64 (.pointer (some a)), .iface 66 (.pointer (some f))] w
      fun e w' => e = .returned (.bool true) ∧ ∃ W, w' = W.setCell f (.pointer (some a)) ∧ Below w.heap.size w W := by
  have hfl := World.block_lt_of_cell? w f hf
  obtain ⟨o1, ho1⟩ : ∃ o, o = Obj.cells #[.pointer (some f)] 66 := ⟨_, rfl⟩
  obtain ⟨o2, ho2⟩ : ∃ o, o = Obj.cells #[.pointer (some ⟨1, 66, none⟩), .pointer (some ⟨w.heap.size, 0, none⟩), .int .u64 150] 78 := ⟨_, rfl⟩
  have hf1 := cell_alloc o1 hf
  have hz1 := frozen_alloc o1 hf hz
  have hf2 := cell_alloc o2 hf1
  have hz2 := frozen_alloc o2 hf1 hz1
  have hg2 := cell_alloc o2 (cell_alloc o1 hg)
  have hp1 : (w.alloc o1).cell? ⟨w.heap.size, 0, none⟩ = some (.pointer (some f)) := by rw [ho1]; exact cell_new1 w _ _ _ rfl
  have hp2 := cell_alloc o2 hp1
  have h34 := c34a f w
  have h35 := c35 ⟨w.heap.size, 0, none⟩
  have h36 := c36 ⟨w.heap.size, 0, none⟩ f _ hp2
  have h1 := mK66
  have h2 := mK64
  have h3 := fK66
  have h4 := fK64
  have h5 := mE66
  have h6 := fE66
  have h7 := mI64
  have h8 := fI64
  have HC := Lib.hid (as_in a f ⟨w.heap.size, 0, none⟩ ((w.alloc o1).alloc o2) hp2 v hf2 hz2)
  have HB : Hid (Below w.heap.size w ((w.alloc o1).alloc o2)) := Lib.hid (((Below.refl _ w).alloc (Nat.le_refl _) _).alloc (by rw [World.size_alloc]; omega) _)
  simp only [rt, rv66, rv64, rv64a, hd] at h34 h35 h36 h1 h2 h3 h4 h5 h6 h7 h8
  rw [ho2, ho1] at h36 hg2
  rw [ho2, ho1] at HC HB
  clear hp1 hp2 hf1 hf2 hz1 hz2 hg hf hz hfl ho1 ho2 o1 o2
  go_enter Tryd.func28, Tryd.ntmps28
  go_wp2_with (go_at_call 37; refine HC.out.mono ?_; rintro e w' ⟨rfl, rfl⟩)
  go_ret
  exact ⟨rfl, _, rfl, (HB.out.alloc HB.out.size _).alloc (HB.out.alloc HB.out.size _).size _⟩
end Go.Proofs.YtdibgdiiamcmfaaDoor.As
