/- asm.named, asm.ordered. -/
import Derived.Test.YtbffmfeflcdgbaaDoorAsmNm
import Derived.Test.YtbffmfeflcdgbaaDoorPObx8
set_option linter.unusedVariables false
set_option linter.unusedSimpArgs false
namespace Go.Proofs.YtbffmfeflcdgbaaDoor.Nm
open Go Go.RowKit
open Go.Proofs.YtbffmfeflcdgbaaDoorW.PrintWords Go.Proofs.YtbffmfeflcdgbaaDoor.POb

set_option maxRecDepth 100000 in
set_option maxHeartbeats 4000000 in
theorem may_calls (s : ByteArray) (w : World) : Calls Tryd.prog 32 #[.agg #[.int .u8 1, .string s, .int .i64 0, .string ⟨#[]⟩, .int .u8 0, .slice none 0 0]] w fun e w' => e = .returned (.bool (nameB s)) ∧ Below w.heap.size w w' := by
 have HB := Aside0.mk (Below.refl w.heap.size w)
 go_enter Tryd.func32, Tryd.ntmps32
 go_wp2_with (first | (go_at_call 39; (with_reducible refine (name_calls s _).mono ?_); rintro e w1 ⟨rfl, hb⟩))
 go_ret
 exact ⟨rfl, below_step (below_alloc HB.out _) hb⟩

set_option maxRecDepth 100000 in
set_option maxHeartbeats 4000000 in
theorem Check_true (s : ByteArray) (hn : nameB s = true) (g : Nat) (w : World) (h : w.heap[g]? = some (.cells #[.int .u8 1, .string s, .int .i64 0, .string ⟨#[]⟩, .int .u8 0, .slice none 0 0] 59 (0, 0))) : Calls Tryd.prog 24 #[.slice (some ⟨g, 0, none⟩) 1 1] w fun e w' => e = .returned (.tuple #[.int .i64 0, .int .i64 0]) ∧ Below w.heap.size w w' := by
 have HB := Aside0.mk (Below.refl w.heap.size w)
 have hm := Aside0.mk (may_calls s)
 rw [hn] at hm
 clear hn
 have q0 : w.cell? ⟨g, 0, none⟩ = some (.int .u8 1) := (blk_cell h 0).trans rfl
 have q1 : w.cell? ⟨g, 1, none⟩ = some (.string s) := (blk_cell h 1).trans rfl
 have q2 : w.cell? ⟨g, 2, none⟩ = some (.int .i64 0) := (blk_cell h 2).trans rfl
 have q3 : w.cell? ⟨g, 3, none⟩ = some (.string ⟨#[]⟩) := (blk_cell h 3).trans rfl
 have q4 : w.cell? ⟨g, 4, none⟩ = some (.int .u8 0) := (blk_cell h 4).trans rfl
 have q5 : w.cell? ⟨g, 5, none⟩ = some (.slice none 0 0) := (blk_cell h 5).trans rfl
 go_enter Tryd.func24, Tryd.ntmps24
 go_wp2
 go_loopw [11] (fun i wr => (i = .int .i64 0 ∧ wr = w) ∨ (i = .int .i64 1 ∧ Aside0 (Below w.heap.size w wr))) (fun i _ => 1 - (RowKit.intOf i).toNat)
 case atStart => exact .inl ⟨rfl, (by first | rfl | trivial)⟩
 case round =>
  rcases hrel with ⟨rfl, rfl⟩ | ⟨rfl, HP⟩
  ·go_wp2_with (first | (go_at_call 32; (with_reducible refine (hm.out _).mono ?_); rintro e w1 ⟨rfl, hb⟩))
   go_roundw
   case rel => exact .inr ⟨rfl, ⟨below_step (below_alloc HB.out _) hb⟩⟩
   case measure => simp [RowKit.intOf]
  go_wp2
  refine bodyPost_ret (results_tmp2 rfl _ _ _) rfl ?_
  exact ⟨rfl, HP.out⟩

set_option maxRecDepth 100000 in
set_option maxHeartbeats 4000000 in
theorem Check_false (s : ByteArray) (hn : nameB s = false) (g : Nat) (w : World) (h : w.heap[g]? = some (.cells #[.int .u8 1, .string s, .int .i64 0, .string ⟨#[]⟩, .int .u8 0, .slice none 0 0] 59 (0, 0))) : Calls Tryd.prog 24 #[.slice (some ⟨g, 0, none⟩) 1 1] w fun e w' => e = .returned (.tuple #[.int .i64 130, .int .i64 0]) ∧ Below w.heap.size w w' := by
 have HB := Aside0.mk (Below.refl w.heap.size w)
 have hm := Aside0.mk (may_calls s)
 rw [hn] at hm
 clear hn
 have q0 : w.cell? ⟨g, 0, none⟩ = some (.int .u8 1) := (blk_cell h 0).trans rfl
 have q1 : w.cell? ⟨g, 1, none⟩ = some (.string s) := (blk_cell h 1).trans rfl
 have q2 : w.cell? ⟨g, 2, none⟩ = some (.int .i64 0) := (blk_cell h 2).trans rfl
 have q3 : w.cell? ⟨g, 3, none⟩ = some (.string ⟨#[]⟩) := (blk_cell h 3).trans rfl
 have q4 : w.cell? ⟨g, 4, none⟩ = some (.int .u8 0) := (blk_cell h 4).trans rfl
 have q5 : w.cell? ⟨g, 5, none⟩ = some (.slice none 0 0) := (blk_cell h 5).trans rfl
 go_enter Tryd.func24, Tryd.ntmps24
 go_wp2
 go_loopw [11] (fun i wr => (i = .int .i64 0 ∧ wr = w)) (fun i _ => 1 - (RowKit.intOf i).toNat)
 case atStart => exact ⟨rfl, (by first | rfl | trivial)⟩
 case round =>
  obtain ⟨rfl, rfl⟩ := hrel
  go_wp2_with (first | (go_at_call 32; (with_reducible refine (hm.out _).mono ?_); rintro e w1 ⟨rfl, hb⟩))
  refine bodyPost_ret (results_tmp2 rfl _ _ _) rfl ?_
  exact ⟨rfl, below_step (below_alloc HB.out _) hb⟩

set_option maxRecDepth 100000 in
set_option maxHeartbeats 4000000 in
theorem named_calls (s : ByteArray) (w : World) : Calls Tryd.prog 17 #[.string s] w fun e w' => e = .returned (.bool (nameB s)) ∧ Below w.heap.size w w' := by
 have HB := Aside0.mk (Below.refl w.heap.size w)
 cases hn : nameB s with
 | true =>
  have hcc := Aside0.mk (Check_true s hn w.heap.size (w.alloc (.cells #[.int .u8 1, .string s, .int .i64 0, .string ⟨#[]⟩, .int .u8 0, .slice none 0 0] 59)) (heap_alloc_new w _))
  clear hn
  go_enter Tryd.func17, Tryd.ntmps17
  go_wp2_with (first | (go_at_call 24; (with_reducible refine hcc.out.mono ?_); rintro e w1 ⟨rfl, hb⟩))
  go_ret
  exact ⟨rfl, below_step (below_alloc HB.out _) hb⟩
 | false =>
  have hcc := Aside0.mk (Check_false s hn w.heap.size (w.alloc (.cells #[.int .u8 1, .string s, .int .i64 0, .string ⟨#[]⟩, .int .u8 0, .slice none 0 0] 59)) (heap_alloc_new w _))
  clear hn
  go_enter Tryd.func17, Tryd.ntmps17
  go_wp2_with (first | (go_at_call 24; (with_reducible refine hcc.out.mono ?_); rintro e w1 ⟨rfl, hb⟩))
  go_ret
  exact ⟨rfl, below_step (below_alloc HB.out _) hb⟩

def ordR (c d : Int) : Int := if c = 0 then d else c
def cmpI (a b : Int) : Int := if a < b then -1 else if a > b then 1 else 0
theorem compare_f (a b : Int) : cmp_Compare_int.f a b = some (cmpI a b) := by
 unfold cmp_Compare_int.f cmp_isNaN_int.f cmpI
 simp
 split <;> (try split) <;> rfl
theorem or_f (c d : Int) : cmp_Or_int.f 4 [c, d] = some (ordR c d) := by
 unfold ordR
 have r0 : rd [c, d] 0 = c := rfl
 have r1 : rd [c, d] 1 = d := rfl
 simp only [cmp_Or_int.f, cmp_Or_int.l0, List.length_cons, List.length_nil]
 simp [wrap64, r0, r1]
 by_cases h : c = 0 <;> by_cases h2 : d = 0 <;> simp [h, h2]
theorem row2 (W : World) (c d : Int) : (Kd.int .i64).C (W.alloc (.cells #[.int .i64 c, .int .i64 d] 3)) (some ⟨W.heap.size, 0, none⟩) 2 [c, d] := by
 have ho : (W.alloc (.cells #[.int .i64 c, .int .i64 d] 3)).ownsRow W.heap.size 3 1 (.slice (some ⟨W.heap.size, 0, none⟩) 2 2) 2 (encs (Value.int .i64) [c, d]) :=
  ⟨rfl, .inr ⟨W.heap.size, 2, _, rfl, Nat.le_refl _, heap_alloc_new W _, Nat.le_refl _, by simp only [maxLen]; omega, rfl, rfl⟩⟩
 exact (Kd.R_reads' (Kd.R_of_own (h1 := fun _ => rfl) (ok := fun _ => True) ho (fun _ _ => trivial))).2.2

theorem or_at (W : World) (g : Nat) (hg : W.heap.size = g) (c d : Int) :
 Calls Tryd.prog 25 #[.slice (some ⟨g, 0, none⟩) 2 2] (W.alloc (.cells #[.int .i64 c, .int .i64 d] 3)) fun e w' => e = .returned (.int .i64 (ordR c d)) ∧ Drawn0 (W.alloc (.cells #[.int .i64 c, .int .i64 d] 3)) w' := by
 subst hg
 exact cmp_Or_int.calls 4 (some ⟨W.heap.size, 0, none⟩) 2 [c, d] _ _ (row2 W c d) (Nat.le_refl 2) (or_f c d)

set_option maxRecDepth 100000 in
set_option maxHeartbeats 4000000 in
theorem ordered_calls (n1 n2 : ByteArray) (a1 a2 : Int) (w : World) :
 Calls Tryd.prog 18 #[.agg #[.string n1, .int .i64 a1], .agg #[.string n2, .int .i64 a2]] w fun e w' => e = .returned (.int .i64 (ordR (cmpI a1 a2) (Lib.compareBytes n1.data.toList n2.data.toList))) ∧ Below w.heap.size w w' := by
 have HB := Aside0.mk (Below.refl w.heap.size w)
 go_enter Tryd.func18, Tryd.ntmps18
 go_upto_region 1 with fail
 generalize hW : (w.alloc (Obj.cells #[Value.string n1, Value.int .i64 a1] 47)).alloc (Obj.cells #[Value.string n2, Value.int .i64 a2] 47) = W
 have hBW : Below w.heap.size w W := by rw [← hW]; exact below_alloc (below_alloc HB.out _) _
 have h0 : W.cell? ⟨w.heap.size, 0, none⟩ = some (.string n1) := by rw [← hW]; simp
 have h1 : W.cell? ⟨w.heap.size, 1, none⟩ = some (.int .i64 a1) := by rw [← hW]; simp
 have h2 : W.cell? ⟨w.heap.size + 1, 0, none⟩ = some (.string n2) := by rw [← hW]; simp
 have h3 : W.cell? ⟨w.heap.size + 1, 1, none⟩ = some (.int .i64 a2) := by rw [← hW]; simp
 have HBW := Aside0.mk hBW
 clear hBW hW HB
 generalize w.heap.size + 1 = b3 at h2 h3 ⊢
 generalize w.heap.size = b2 at h0 h1 ⊢
 go_region_held3 (fun w' => w'.cell? ⟨b2, 0, none⟩ = some (.string n1) ∧ w'.cell? ⟨b2, 1, none⟩ = some (.int .i64 a1) ∧ w'.cell? ⟨b3, 0, none⟩ = some (.string n2) ∧ w'.cell? ⟨b3, 1, none⟩ = some (.int .i64 a2)) (first | go_keep)
  (first | ((go_at_call 26; (with_reducible refine (cmp_Compare_int.calls a1 a2 _ _ (compare_f a1 a2)).mono ?_); rintro e w1 ⟨rfl, ⟨⟨m1, rfl⟩⟩⟩)) | ((go_at_call 27; (with_reducible refine (Tryd.strings_Compare n1 n2 _).mono ?_); rintro e w1 ⟨rfl, rfl⟩)) | ((go_at_call 25; (with_reducible refine (or_at _ W.heap.size ?s1 (cmpI a1 a2) (Lib.compareBytes n1.data.toList n2.data.toList)).mono ?_); (case s1 => rfl); rintro e w1 ⟨rfl, ⟨⟨m2, rfl⟩⟩⟩)))
 go_wp2
 go_ret
 refine ⟨rfl, ?_⟩
 (with_reducible repeat (first | exact HBW.out | apply below_alloc | apply pw_below_drewN | apply below_drew1))
end Go.Proofs.YtbffmfeflcdgbaaDoor.Nm
