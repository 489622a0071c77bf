/- asm.Bytes walked. -/
import Derived.Test.YtbffmfeflcdgbaaDoorAsmByt
import Derived.Test.YtbffmfeflcdgbaaDoorAsmCln
import Derived.Deep.RegionHeld3
set_option linter.unusedVariables false
set_option linter.unusedSimpArgs false
namespace Go.Proofs.YtbffmfeflcdgbaaDoor.Byt
open Go Go.RowKit
open Go.Proofs.YtbffmfeflcdgbaaDoorW.PrintWords Go.Proofs.YtbffmfeflcdgbaaDoor.POb Go.Proofs.YtbffmfeflcdgbaaDoor.LentL Go.Proofs.YtbffmfeflcdgbaaDoor.Room Go.Proofs.YtbffmfeflcdgbaaDoor.Chk Go.Proofs.YtbffmfeflcdgbaaDoor.Asm

set_option maxRecDepth 100000 in
/-- copy at a step of a drawn region, by its run equation. -/
theorem step_copy_run {ops : Array Oper} {o : Oper} {a : Act} {W : World} {K : Act → World → Prop} {Q : Exit → Act → World → Prop} {E : Prop}
 (hg : o.guard = none) (s x : Operand) (t ty : TypeId) (hop : o.op = Op.call { callee := Callee.builtin Builtin.copy, args := #[s, x], argTypes := #[t, t] }) (hty : o.type = ty)
 (vs vx v1 : Value) (w1 : World) (hs : a.eval s = vs) (hx : a.eval x = vx) (hrun : (Builtin.copy_ #[t, t] ty #[vs, vx]).run Tryd.prog W = .ok v1 w1)
 (hK : K (a.put o.dst v1) w1) : if Region.wanted o (yielded ops a.tmps) = true then Oper.wp Tryd.prog o a W K Q else E := by
 have hw : Region.wanted o (yielded ops a.tmps) = true := by simp [Region.wanted, hg]
 rw [if_pos hw]
 unfold Oper.wp
 simp [execOp, hop, hty, resolve, invoke, builtin, hs, hx, hrun, Result.andThen]
 exact hK
theorem heap_old' {w : World} {o x : Obj} {k : Nat} (h : w.heap[k]? = some x) : (w.alloc o).heap[k]? = some x := by
 rw [heap_alloc_old (h := (Array.getElem?_eq_some_iff.1 h).1)]; exact h
theorem up1 {W W1 : World} (hB1 : Below W.heap.size W W1) {i : Nat} {cs : Array Value} {t : TypeId} (hi : W.heap[i]? = some (.cells cs t (0, 0))) : W1.heap[i]? = some (.cells cs t (0, 0)) := by rw [hB1.block _ (blk_lt hi)]; exact hi
theorem drop42 {l : List S42} {k : Nat} (h : k < l.length) : l.drop k = rd_T42 l k :: l.drop (k + 1) := by
 unfold rd_T42
 rw [Int.toNat_natCast, List.getD_eq_getElem?_getD, List.getElem?_eq_getElem h, Option.getD_some]
 exact List.drop_eq_getElem_cons h
theorem blk_ok {e : Int} {b : S42} {r : List S42} (h : blocksB e (b :: r) = true) : 0 ≤ b.f0 ∧ b.f0 + (b.f1.length : Int) ≤ 65536 ∧ 0 < b.f1.length ∧ blocksB (b.f0 + (b.f1.length : Int)) r = true := by
 unfold blocksB at h
 simp only [Bool.and_eq_true, Bool.not_eq_true'] at h
 obtain ⟨h1, h2⟩ := h
 unfold badB at h1
 simp only [Bool.or_eq_false_iff, decide_eq_false_iff_not] at h1
 refine ⟨?_, ?_, ?_, h2⟩ <;> omega
theorem make64 (W : World) : (Instr.makeSlice 33 (.int .i64 65536) (.int .i64 65536)).run Tryd.prog W = .ok (.slice (some ⟨W.heap.size, 0, none⟩) 65536 65536) (W.alloc (.cells (numsA (List.replicate 65536 0)) 5)) := by
 obtain ⟨i0, hi, hzz⟩ := Option.map_eq_some_iff.1 info5
 simp only [Prod.mk.injEq] at hzz
 obtain ⟨hz0, hz1, hz2⟩ := hzz
 have h := run_make (P := Tryd.prog) (w := W) 33 5 i0 _ Tryd.underlying33 hi hz0 .i64 .i64 65536 65536 (by omega) (Int.le_refl _) (by rw [hz2]; omega) (by omega)
 rw [hz1, show (65536 : Int).toNat = 65536 from rfl, made_nums] at h
 exact h

theorem setRow_far {w : World} {g k : Nat} {cs : Array Value} {x : Obj} (h : w.heap[k]? = some x) (hne : k ≠ g) : (w.setRow g cs).heap[k]? = some x := by rw [setRow_other _ _ _ _ hne]; exact h
theorem drew_heap' {w : World} {k : Nat} {x : Obj} (h : w.heap[k]? = some x) : w.drew.heap[k]? = some x := h
theorem box2 {w : World} {gb t : Nat} {a b : Value} (h : w.heap[gb]? = some (.cells #[a, b] t (0, 0))) : w.cell? ⟨gb, 0, none⟩ = some a ∧ w.cell? ⟨gb, 1, none⟩ = some b := ⟨(blk_cell h 0).trans rfl, (blk_cell h 1).trans rfl⟩
structure Bp (w wr : World) (gb g : Nat) (box : Array Value) (row : List Int) : Prop where
 hb : wr.heap[gb]? = some (.cells box 26 (0, 0))
 hg : wr.heap[g]? = some (.cells (numsA row) 5 (0, 0))
 below : Below w.heap.size w wr
 gg : w.heap.size ≤ g

def bytesV (rc : Int) (l0 : List S42) (a b : Int) : List Int × Int := if rc = 0 ∧ 0 ≤ a ∧ a ≤ b ∧ b ≤ 65536 then (((layB l0 (List.replicate 65536 0)).take b.toNat).drop a.toNat, 0) else ([], 1)

theorem layB_length : ∀ (l : List S42) (e : Int) (row : List Int), blocksB e l = true → row.length = 65536 → (layB l row).length = 65536
 | [], _, row, _, h => h
 | b :: r, e, row, hb, h => by
  obtain ⟨h1, h2, h3, h4⟩ := blk_ok hb
  exact layB_length r _ _ h4 (by rw [putAt_length (by omega)]; exact h)

set_option maxRecDepth 100000 in
set_option maxHeartbeats 8000000 in
theorem bytes_calls (rc : Int) (A0 : Option Addr) (c0 : Nat) (l0 : List S42) (A1 : Option Addr) (c1 : Nat) (l1 : List S52) (A2 : Option Addr) (c2 : Nat) (l2 : List S47) (a b : Int) (w : World)
 (hr0 : Kd.C k42 w A0 l0.length l0) (hl0 : l0.length ≤ 100000000000) (hrc : rc = 0 → blocksB (-1) l0 = true) (hr1 : ¬ rc = 0 → rc = 1)
 (hck : ∀ W, Below w.heap.size w W → Calls Tryd.prog 6 #[.agg #[.slice A0 l0.length c0, .slice A1 l1.length c1, .slice A2 l2.length c2]] W fun e w' => e = .returned (.int .i64 rc) ∧ Below W.heap.size W w') :
 Calls Tryd.prog 7 #[.agg #[.slice A0 l0.length c0, .slice A1 l1.length c1, .slice A2 l2.length c2], .int .i64 a, .int .i64 b] w fun e w' => ∃ v, e = .returned (.tuple #[v, .int .i64 (bytesV rc l0 a b).2]) ∧ kb.R 5 w' w.heap.size (fun _ => True) v (bytesV rc l0 a b).1 ∧ Below w.heap.size w w' := by
 have HR0 := Aside0.mk hr0
 have HCK := Lib.hid hck
 have HRC := Lib.hid hrc
 have HR1 := Lib.hid hr1
 clear hr1
 clear hr0 hck hrc
 have hu26 := Tryd.underlying26
 have HB := Aside0.mk (Below.refl w.heap.size w)
 have hmk := make64
 by_cases h0 : rc = 0
 ·subst h0
  have hbk := HRC.out rfl
  have HBK := Aside0.mk hbk
  clear hbk
  by_cases f0 : a < 0
  ·have hV : bytesV 0 l0 a b = ([], 1) := if_neg (by omega)
   rw [hV]
   go_enter Tryd.func7, Tryd.ntmps7
   go_wp2_with (first | (go_at_call 6; (with_reducible refine (HCK.out _ (below_alloc HB.out _)).mono ?_); rintro e w1 ⟨rfl, hb⟩))
   refine bodyPost_ret (results_tmp2 rfl _ _ _) rfl ?_
   exact ⟨_, rfl, Kd.R_nil _ _ _ _ _, below_step (below_alloc HB.out _) hb⟩
  by_cases f1 : b < a
  ·have hV : bytesV 0 l0 a b = ([], 1) := if_neg (by omega)
   rw [hV]
   go_enter Tryd.func7, Tryd.ntmps7
   go_wp2_with (first | (go_at_call 6; (with_reducible refine (HCK.out _ (below_alloc HB.out _)).mono ?_); rintro e w1 ⟨rfl, hb⟩))
   refine bodyPost_ret (results_tmp2 rfl _ _ _) rfl ?_
   exact ⟨_, rfl, Kd.R_nil _ _ _ _ _, below_step (below_alloc HB.out _) hb⟩
  by_cases f2 : b > 65536
  ·have hV : bytesV 0 l0 a b = ([], 1) := if_neg (by omega)
   rw [hV]
   go_enter Tryd.func7, Tryd.ntmps7
   go_wp2_with (first | (go_at_call 6; (with_reducible refine (HCK.out _ (below_alloc HB.out _)).mono ?_); rintro e w1 ⟨rfl, hb⟩))
   refine bodyPost_ret (results_tmp2 rfl _ _ _) rfl ?_
   exact ⟨_, rfl, Kd.R_nil _ _ _ _ _, below_step (below_alloc HB.out _) hb⟩
  have hV : bytesV 0 l0 a b = (((layB l0 (List.replicate 65536 0)).take b.toNat).drop a.toNat, 0) := if_pos (by omega)
  rw [hV]
  have hZ : (List.replicate 65536 (0 : Int)).length = 65536 := List.length_replicate
  have hLL := layB_length l0 (-1) _ HBK.out hZ
  generalize List.replicate 65536 (0 : Int) = Z at hZ hLL hmk ⊢
  have HLL := Aside0.mk hLL
  clear hLL hV
  go_enter Tryd.func7, Tryd.ntmps7
  go_upto_region 7 with (first | (go_at_call 6; (with_reducible refine (HCK.out _ (below_alloc HB.out _)).mono ?_); rintro e w1 ⟨rfl, hb⟩))
  have hW1 : Bp w (w1.alloc (Obj.cells (numsA Z) 5)) w.heap.size w1.heap.size #[.slice A0 l0.length c0, .slice A1 l1.length c1, .slice A2 l2.length c2] Z := ⟨heap_old' (up1 hb (heap_alloc_new w _)), heap_alloc_new w1 _, below_alloc (below_step (below_alloc HB.out _) hb) _, (below_step (below_alloc HB.out (.cells #[.slice A0 l0.length c0, .slice A1 l1.length c1, .slice A2 l2.length c2] 26)) hb).size⟩
  generalize w1.alloc (Obj.cells (numsA Z) 5) = W9 at hW1 ⊢
  generalize w1.heap.size = g at hW1 ⊢
  have HW1 := Aside0.mk hW1
  have HZ := Aside0.mk hZ
  have q0 : W9.cell? ⟨w.heap.size, 0, none⟩ = some (.slice A0 l0.length c0) := (blk_cell hW1.hb 0).trans rfl
  clear hW1 hb hZ
  go_wp2
  go_loopw [32] (fun v32 wr => ∃ (k : Nat) (e : Int) (row : List Int), k ≤ l0.length ∧ v32 = .int .i64 k ∧ Aside0 (blocksB e (l0.drop k) = true) ∧ Aside0 (layB (l0.drop k) row = layB l0 Z) ∧ Aside0 (row.length = 65536) ∧ Aside0 (Bp w wr w.heap.size g #[.slice A0 l0.length c0, .slice A1 l1.length c1, .slice A2 l2.length c2] row)) (fun i _ => l0.length - (RowKit.intOf i).toNat)
  case atStart => exact ⟨0, -1, Z, Nat.zero_le _, rfl, HBK, ⟨rfl⟩, HZ, HW1⟩
  case round =>
   obtain ⟨k, e, row, hk, rfl, HE, HY, HRL, HP⟩ := hrel
   clear HW1 q0
   by_cases hlt : k < l0.length
   ·have i0 : (k : Int) < (l0.length : Int) := by omega
    have i1 : (0 : Int) ≤ (k : Int) := by omega
    obtain ⟨ad, A1', c1', ea, hx0, hx1, hcc, hCC⟩ := at_T42 HR0.out (k : Int) i1 i0
    subst ea
    rw [Int.toNat_natCast] at hx0 hx1
    replace hx0 := (HP.out.below.cell (World.block_lt_of_cell? w _ hx0)).trans hx0
    replace hx1 := (HP.out.below.cell (World.block_lt_of_cell? w _ hx1)).trans hx1
    have hE2 := HE.out
    have hY2 := HY.out
    rw [drop42 hlt] at hE2 hY2
    have hCC2 := Kd.C_below hCC HP.out.below
    generalize rd_T42 l0 (k : Int) = x at hx0 hx1 hE2 hY2 hCC hCC2 hcc
    obtain ⟨k1, k2, k3, k4⟩ := blk_ok hE2
    have hrun := copy_into (wr.alloc (Obj.cells #[.int .i64 x.f0, .slice A1' x.f1.length c1'] 42)).drew g row x.f0.toNat 65536 A1' x.f1 c1' HRL.out (heap_old' HP.out.hg) (Kd.C_below hCC2 (below_drew1 (below_alloc (Below.refl _ _) _))) k3 (by omega)
    simp only [goInt] at hrun
    have HRUN := Lib.hid hrun
    have HK4 := Aside0.mk k4
    have HY2 := Aside0.mk hY2
    have HK := Aside0.mk (And.intro k1 (And.intro k2 k3))
    have k5 : x.f0 ≤ 65536 := by omega
    have k6 : ¬ 65536 = x.f0.toNat := by omega
    clear hrun hCC hCC2 hcc hE2 hY2 HE HY k4 k2 k3
    have hb11 := heap_alloc_new wr (Obj.cells #[.int .i64 x.f0, .slice A1' x.f1.length c1'] 42)
    have hgl : g < wr.heap.size := blk_lt HP.out.hg
    have HB11 := Aside0.mk hb11
    have HGL := Aside0.mk hgl
    have HBX := Aside0.mk (below_drew1 (below_alloc HP.out.below (Obj.cells #[.int .i64 x.f0, .slice A1' x.f1.length c1'] 42)))
    clear hb11 hgl
    have hft : (putAt row x.f0.toNat x.f1).length = 65536 := by rw [putAt_length (by rw [HRL.out]; have := k1; have := HK.out.2.1; omega)]; exact HRL.out
    have HFT := Aside0.mk hft
    clear hft
    go_upto_region 10 with fail
    have e0 : (wr.alloc (Obj.cells #[.int .i64 x.f0, .slice A1' x.f1.length c1'] 42)).cell? ⟨wr.heap.size, 0, none⟩ = some (.int .i64 x.f0) := (blk_cell HB11.out 0).trans rfl
    have e1 : (wr.alloc (Obj.cells #[.int .i64 x.f0, .slice A1' x.f1.length c1'] 42)).cell? ⟨wr.heap.size, 1, none⟩ = some (.slice A1' x.f1.length c1') := (blk_cell HB11.out 1).trans rfl
    go_region_held3 (fun w' => w'.cell? ⟨wr.heap.size, 0, none⟩ = some (.int .i64 x.f0) ∧ w'.cell? ⟨wr.heap.size, 1, none⟩ = some (.slice A1' x.f1.length c1')) (first | go_keep | exact box2 (setRow_far (drew_heap' HB11.out) (Nat.ne_of_gt HGL.out)))
     (first | (refine step_copy_run rfl (.tmp 39) (.tmp 41) 33 3 rfl rfl _ _ _ _ ?hs ?hx HRUN.out ?_; (case hs => first | rfl | (trace_state; rfl)); (case hx => rfl)))
    go_wp2
    go_roundw
    case rel =>
     refine ⟨k + 1, _, putAt row x.f0.toNat x.f1, by omega, by go_num, HK4, HY2, ⟨HFT.out⟩, ⟨⟨setRow_far (drew_heap' (heap_old' HP.out.hb)) (blk_ne HP.out.hb HP.out.hg (by decide)), setRow_heap _ _ _ _ _ _ (drew_heap' (heap_old' HP.out.hg)), below_setRow HBX.out HP.out.gg _, HP.out.gg⟩⟩⟩
    case measure => simp [RowKit.intOf]; omega
   obtain rfl : k = l0.length := by omega
   have hy := HY.out
   rw [List.drop_length] at hy
   have HY2 := Aside0.mk hy
   clear hy
   have hC := slice_C wr g row HP.out.hg (by rw [HRL.out]; simp only [maxLen]; omega)
   have HC := Aside0.mk hC
   clear hC
   have ha1 : a.toNat ≤ b.toNat := by omega
   have ha2 : b.toNat ≤ 65536 := by omega
   have ht := Kd.C_take HC.out (m := b.toNat) (by rw [HRL.out]; exact ha2)
   have hlt : (row.take b.toNat).length = b.toNat := by rw [List.length_take, HRL.out]; omega
   have hld : ((row.take b.toNat).drop a.toNat).length = b.toNat - a.toNat := by rw [List.length_drop, hlt]
   have hd := Kd.C_drop (c := 65536) ht (m := a.toNat) (by rw [hlt]; exact ha1) (by rw [hlt]; exact ha2)
   have HLD := Aside0.mk hld
   rw [show row = layB l0 Z from HY2.out] at hd
   by_cases ea : 65536 = a.toNat
   ·rw [if_pos ea, ← show row = layB l0 Z from HY2.out] at hd
    have hcl := clone_some _ 0 _ wr hd (by rw [hld]; omega) (by rw [hld]; omega)
    rw [hld] at hcl
    have HCL := Aside0.mk hcl
    clear hcl hd ht hlt hld
    go_wp2_with (first | (go_at_call 19; (refine HCL.out.mono ?_); rintro e9 w9 ⟨v, rfl, hRB, hb9⟩))
    refine bodyPost_ret (results_tmp2 rfl _ _ _) rfl ?_
    exact ⟨v, rfl, Kd.R_lower (by rw [← show row = layB l0 Z from HY2.out]; exact hRB) HP.out.below.size, below_step HP.out.below hb9⟩
   rw [if_neg ea, ← show row = layB l0 Z from HY2.out] at hd
   have eA : Option.map (fun x : Addr => x.add (a.toNat * kb.sz)) (some ⟨g, 0, none⟩) = some ⟨g, a.toNat, none⟩ := by
    show some (Addr.add ⟨g, 0, none⟩ (a.toNat * 1)) = _
    simp [add_plain]
   rw [eA] at hd
   have hcl := clone_some _ (65536 - a.toNat) _ wr hd (by rw [hld]; omega) (by rw [hld]; omega)
   rw [hld] at hcl
   have HCL := Aside0.mk hcl
   clear hcl hd ht hlt hld
   go_wp2_with (first | (go_at_call 19; (refine HCL.out.mono ?_); rintro e9 w9 ⟨v, rfl, hRB, hb9⟩))
   refine bodyPost_ret (results_tmp2 rfl _ _ _) rfl ?_
   exact ⟨v, rfl, Kd.R_lower (by rw [← show row = layB l0 Z from HY2.out]; exact hRB) HP.out.below.size, below_step HP.out.below hb9⟩
 have hV : bytesV rc l0 a b = ([], 1) := if_neg (fun h => h0 h.1)
 have hr1 := HR1.out h0
 subst hr1
 rw [hV]
 go_enter Tryd.func7, Tryd.ntmps7
 go_wp2_with (first | (go_at_call 6; (with_reducible refine (HCK.out _ (below_alloc HB.out _)).mono ?_); rintro e w1 ⟨rfl, hb⟩))
 refine bodyPost_ret (results_tmp2 rfl _ _ _) rfl ?_
 exact ⟨_, rfl, Kd.R_nil _ _ _ _ _, below_step (below_alloc HB.out _) hb⟩
end Go.Proofs.YtbffmfeflcdgbaaDoor.Byt
