/- source.read's deferred function, walked: where the package's own value was thrown it recovers, and lays what is none. -/
import Derived.Test.YtjedbamcjgabpaaDoorSrcRm
import Derived.Defers
import Derived.Recover
import Derived.Laws.Pointers
set_option linter.unusedVariables false
set_option linter.unusedSimpArgs false
namespace Go.Proofs.YtjedbamcjgabpaaDoor.PSo
open Go Go.RowKit
open Go.Proofs.YtjedbamcjgabpaaDoorW.PrintWords
open Go.Proofs.YtjedbamcjgabpaaDoor.Src
set_option maxRecDepth 100000
set_option maxHeartbeats 2000000
theorem rec_idle (p q : Addr) (w : World) :
 CallsD Tryd.prog 47 #[.pointer (some p), .pointer (some q)] .returning w fun e u' w' => e = .returned (.tuple #[]) ∧ u' = .returning ∧ w' = w := by
 refine callsD_of_wpS Tryd.func47 rfl fun c₀ cs hu => ?_
 apply wpS_seq
 apply wpS_region
 simp [wpOpsS, go_sem, recoverD, hu, Tryd.ntmps47, Exit.thenS]
 rw [show (#[Value.pointer (some p), Value.pointer (some q)] ++ ((Array.replicate 15 undef).setIfInBounds 3 Value.nilIface).setIfInBounds 0 Value.nilIface) = #[.pointer (some p), .pointer (some q), .nilIface, undef, undef, .nilIface, undef, undef, undef, undef, undef, undef, undef, undef, undef, undef, undef] from rfl]
 refine wpS_of_wp ?_
 go_wp2
 cases c₀
 simp_all [bodyPostS, results, Tryd.results47]
def PNr : List PanicEntry := [{ v := Value.iface 85 (Value.agg #[]), recovered := true }]
theorem rec_panic (gi gk : Nat) (w w0 : World) (z : Bool) (v0 v1 v2 v3 v4 v5 : Value) (hb : w.heap[gi]? = some (.cells #[v0, v1, v2, v3, v4, v5] 43 (0, 0))) (hk : w.heap[gk]? = some (.cells #[.bool z] 4 (0, 0))) (hB : Below w0.heap.size w0 w) (hi0 : w0.heap.size ≤ gi) (hk0 : w0.heap.size ≤ gk) (hne : gi ≠ gk) :
 CallsD Tryd.prog 47 #[.pointer (some ⟨gi, 0, none⟩), .pointer (some ⟨gk, 0, none⟩)] (.panicking PN) w fun e u' w' => e = .returned (.tuple #[]) ∧ u' = .panicking PNr ∧ w'.heap[gi]? = some (.cells zcells 43 (0, 0)) ∧ w'.heap[gk]? = some (.cells #[.bool false] 4 (0, 0)) ∧ Below w0.heap.size w0 w' := by
 refine callsD_of_wpS Tryd.func47 rfl fun c₀ cs hu => ?_
 apply wpS_seq
 apply wpS_region
 simp [wpOpsS, go_sem, recoverD, hu, Tryd.ntmps47, Exit.thenS, PN]
 rw [show (#[Value.pointer (some { block := gi, off := 0 }), Value.pointer (some { block := gk, off := 0 })] ++ ((Array.replicate 15 undef).setIfInBounds 3 (Value.iface 85 (Value.agg #[]))).setIfInBounds 0 (Value.iface 85 (Value.agg #[]))) = #[Value.pointer (some ⟨gi, 0, none⟩), .pointer (some ⟨gk, 0, none⟩), .iface 85 (.agg #[]), undef, undef, .iface 85 (.agg #[]), undef, undef, undef, undef, undef, undef, undef, undef, undef, undef, undef] from rfl]
 refine wpS_of_wp ?_
 have hba := blk_alloc hb (.cells #[] 85)
 have hka := blk_alloc hk (.cells #[] 85)
 have hba2 := Aside0.mk hba
 have hka2 := Aside0.mk hka
 have HBB := Aside0.mk (below_alloc hB (.cells #[] 85))
 have H0 := Aside0.mk (And.intro hi0 hk0)
 have q0 := (blk_cell hba 0).trans (rfl : _ = some v0)
 have f0 := blk_frozen hba 0
 have q1 := (blk_cell hba 1).trans (rfl : _ = some v1)
 have f1 := blk_frozen hba 1
 have q2 := (blk_cell hba 2).trans (rfl : _ = some v2)
 have f2 := blk_frozen hba 2
 have q3 := (blk_cell hba 3).trans (rfl : _ = some v3)
 have f3 := blk_frozen hba 3
 have q4 := (blk_cell hba 4).trans (rfl : _ = some v4)
 have f4 := blk_frozen hba 4
 have q5 := (blk_cell hba 5).trans (rfl : _ = some v5)
 have f5 := blk_frozen hba 5
 have qk := (blk_cell hka 0).trans (rfl : _ = some (Value.bool z))
 have fk := blk_frozen hka 0
 have hne2 : gk ≠ gi := fun e => hne e.symm
 clear hba hka hb hk hB hi0 hk0
 have hta : ∀ w : World, (Instr.typeAssert (.iface 85 (.agg #[])) 20 85 true).run Tryd.prog w = .ok (.tuple #[.agg #[], .bool true]) w := fun _ => by kernel_rfl
 go_wp2
 have r1 := blk_put (blk_put (blk_put (blk_put (blk_put (blk_put hba2.out 0 (.int .u8 0) rfl) 1 (.string ⟨#[]⟩) rfl) 2 (.int .i64 0) rfl) 3 (.string ⟨#[]⟩) rfl) 4 (.int .u8 0) rfl) 5 (.slice none 0 0) rfl
 have r2 := blk_far (p := ⟨gi, 5, none⟩) (blk_far (p := ⟨gi, 4, none⟩) (blk_far (p := ⟨gi, 3, none⟩) (blk_far (p := ⟨gi, 2, none⟩) (blk_far (p := ⟨gi, 1, none⟩) (blk_far (p := ⟨gi, 0, none⟩) hka2.out hne2 (.int .u8 0)) hne2 (.string ⟨#[]⟩)) hne2 (.int .i64 0)) hne2 (.string ⟨#[]⟩)) hne2 (.int .u8 0)) hne2 (.slice none 0 0)
 have r3 := blk_far (p := ⟨gk, 0, none⟩) r1 hne (.bool false)
 have r4 := blk_put r2 0 (.bool false) rfl
 have r5 := below_set (j := 0) (v := .bool false) (below_set (j := 5) (v := .slice none 0 0) (below_set (j := 4) (v := .int .u8 0) (below_set (j := 3) (v := .string ⟨#[]⟩) (below_set (j := 2) (v := .int .i64 0) (below_set (j := 1) (v := .string ⟨#[]⟩) (below_set (j := 0) (v := .int .u8 0) HBB.out H0.out.1) H0.out.1) H0.out.1) H0.out.1) H0.out.1) H0.out.1) H0.out.2
 simp [bodyPostS, results, Tryd.results47]
 exact ⟨rfl, r3, r4, r5⟩
end Go.Proofs.YtjedbamcjgabpaaDoor.PSo
