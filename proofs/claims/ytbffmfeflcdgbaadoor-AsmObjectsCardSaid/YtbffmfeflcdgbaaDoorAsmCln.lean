/- slices.Clone at bytes. -/
import Derived.Test.YtbffmfeflcdgbaaDoorPObx5
import Derived.WalkSpells
set_option linter.unusedVariables false
set_option linter.unusedSimpArgs false
namespace Go.Proofs.YtbffmfeflcdgbaaDoor.Asm
open Go Go.RowKit
open Go.Proofs.YtbffmfeflcdgbaaDoorW.PrintWords Go.Proofs.YtbffmfeflcdgbaaDoor.POb

abbrev RB (w : World) (b : Nat) (v : Value) (l : List Int) : Prop := (Kd.int .u8).R 5 w b (fun _ => True) v l
theorem empty_bytes (w : World) (B0 : Nat) (h : B0 ≤ w.heap.size) : RB (w.alloc (.cells #[] 5)) B0 (.slice (some ⟨w.heap.size, 0, none⟩) 0 0) [] := by
 refine ⟨fun _ _ => trivial, [], ⟨rfl, .inr ⟨w.heap.size, 0, #[], rfl, h, heap_alloc_new w _, ?_, ?_, ?_, ?_⟩⟩, Reps.none _ _⟩
 all_goals first | exact Nat.le_refl _ | (simp [maxLen]; done) | rfl
set_option maxRecDepth 100000 in
set_option maxHeartbeats 4000000 in
theorem clone_some (ad : Addr) (c : Nat) (l : List Int) (w : World) (hr : Kd.C (Kd.int .u8) w (some ad) l.length l) (hc : l.length ≤ c) (hl : l.length ≤ 1000000000) :
 Calls Tryd.prog 19 #[.slice (some ad) l.length c] w fun e w' => ∃ v, e = .returned v ∧ RB w' w.heap.size v l ∧ Below w.heap.size w w' := by
 have HR := Aside0.mk hr
 have HE := Aside0.mk (empty_bytes w w.heap.size (Nat.le_refl _))
 have HB := Aside0.mk (below_alloc (Below.refl w.heap.size w) (.cells #[] 5))
 have hq : (binOp .eql 33 (.slice (some ad) l.length c) (.slice none 0 0)).run Tryd.prog w = .ok (.bool false) w := Lib.run_eql_slice_nil w 33 5 (some ad) l.length c 0 0 Tryd.underlying33
 clear hr
 go_enter Tryd.func19, Tryd.ntmps19
 go_wp2_with ((with_reducible refine gate_builtin (b := .append) (xs := #[.tmp 5, .tmp 6]) rfl ?_); at_builtin; refine Kd.R_append_rows (Kd.int .u8) (w0 := w) w.heap.size rfl (.tmp 5) (.tmp 6) 33 5 (.int .u8 0) 1 rfl Tryd.underlying33 info5 rfl (by decide) (by omega) (.slice (some ⟨w.heap.size, 0, none⟩) 0 0) ([] : List Int) l _ _ _ (fun _ => True) (fun _ => False) rfl rfl ?aO ?aR (fun _ _ h => h) (fun _ h => h.elim) ?aF ?aB ?aS ?aL ?_; (case aO => exact HE.out); (case aR => exact Kd.C_below HR.out HB.out); (case aF => exact (fun _ _ => trivial)); (case aB => exact HB.out); (case aS => exact HB.out.size); (case aL => simp; omega); intro v1 w1 ho hb hg hat; have O1 := Aside0.mk ho; have B1 := Aside0.mk hb; clear ho hb hg hat)
 go_ret
 exact ⟨_, rfl, O1.out, B1.out⟩
end Go.Proofs.YtbffmfeflcdgbaaDoor.Asm
