/- asm.Check walked. -/
import Derived.Test.YtbffmfeflcdgbaaDoorAsmReg15
set_option linter.unusedVariables false
set_option linter.unusedSimpArgs false
namespace Go.Proofs.YtbffmfeflcdgbaaDoor.Chk
open Go Go.RowKit Go.Maps Go.WideMaps
open Go.Proofs.YtbffmfeflcdgbaaDoorW.PrintWords Go.Proofs.YtbffmfeflcdgbaaDoor.POb Go.Proofs.YtbffmfeflcdgbaaDoor.Nm
open Go.Proofs.YtbffmfeflcdgbaaDoor.Code (GOk)

theorem heap_old' {w : World} {o x : Obj} {k : Nat} (h : w.heap[k]? = some x) : (w.alloc o).heap[k]? = some x := by
 rw [heap_alloc_old (h := (Array.getElem?_eq_some_iff.1 h).1)]; exact h
theorem up1 {W W1 : World} (hB1 : Below W.heap.size W W1) {i : Nat} {cs : Array Value} {t : TypeId} (hi : W.heap[i]? = some (.cells cs t (0, 0))) : W1.heap[i]? = some (.cells cs t (0, 0)) := by rw [hB1.block _ (blk_lt hi)]; exact hi
theorem drop42 {l : List S42} {k : Nat} (h : k < l.length) : l.drop k = rd_T42 l k :: l.drop (k + 1) := by
 unfold rd_T42
 rw [Int.toNat_natCast, List.getD_eq_getElem?_getD, List.getElem?_eq_getElem h, Option.getD_some]
 exact List.drop_eq_getElem_cons h
theorem drop47 {l : List S47} {k : Nat} (h : k < l.length) : l.drop k = rd_T47 l k :: l.drop (k + 1) := by
 unfold rd_T47
 rw [Int.toNat_natCast, List.getD_eq_getElem?_getD, List.getElem?_eq_getElem h, Option.getD_some]
 exact List.drop_eq_getElem_cons h
def prevL (l : List S47) (k : Nat) : Option S47 := if k = 0 then none else some (rd_T47 l ((k : Int) - 1))
def R6 (l0 : List S42) (mb : Bool) (l2 : List S47) : Int := if blocksB (-1) l0 && (mb && labelsB [] none l2) then 0 else 1
theorem R6_no0 {l0 : List S42} {mb : Bool} {l2 : List S47} (h : blocksB (-1) l0 = false) : R6 l0 mb l2 = 1 := by unfold R6; rw [h]; rfl
theorem R6_no1 {l0 : List S42} {mb : Bool} {l2 : List S47} (h : mb = false) : R6 l0 mb l2 = 1 := by unfold R6; rw [h, Bool.false_and, Bool.and_false]; rfl
theorem R6_no2 {l0 : List S42} {mb : Bool} {l2 : List S47} (h : labelsB [] none l2 = false) : R6 l0 mb l2 = 1 := by unfold R6; rw [h, Bool.and_false, Bool.and_false]; rfl
theorem R6_ok {l0 : List S42} {mb : Bool} {l2 : List S47} (h0 : blocksB (-1) l0 = true) (h1 : mb = true) (h2 : labelsB [] none l2 = true) : R6 l0 mb l2 = 0 := by unfold R6; rw [h0, h1, h2]; rfl

theorem bad0 {e : Int} {x : S42} {r : List S42} {b : Bool} (h : blocksB e (x :: r) = b) (hb : badB e x = true) : b = false := by
 rw [← h]; simp [blocksB, hb]
theorem good0 {e : Int} {x : S42} {r : List S42} {b : Bool} (h : blocksB e (x :: r) = b) (hb : badB e x = false) : blocksB (x.f0 + (x.f1.length : Int)) r = b := by
 rw [← h]; simp [blocksB, hb]
theorem badl {seen : List (List UInt8)} {p : Option S47} {x : S47} {r : List S47} {b : Bool} (h : labelsB seen p (x :: r) = b) (hb : badL seen p x = true) : b = false := by
 rw [← h]; simp [labelsB, hb]
theorem goodl {seen : List (List UInt8)} {p : Option S47} {x : S47} {r : List S47} {b : Bool} (h : labelsB seen p (x :: r) = b) (hb : badL seen p x = false) : labelsB (x.f0.data.toList :: seen) (some x) r = b := by
 rw [← h]; simp [labelsB, hb]
theorem prevL_succ {l : List S47} {k : Nat} {x : S47} (h : rd_T47 l (k : Int) = x) : prevL l (k + 1) = some x := by
 unfold prevL
 rw [if_neg (by omega), show ((k + 1 : Nat) : Int) - 1 = (k : Int) by omega, h]
theorem seen_true {s : ByteArray} {seen : List (List UInt8)} (h : s.data.toList ∈ seen) : seenV s seen = 1 := if_pos h
theorem seen_false {s : ByteArray} {seen : List (List UInt8)} (h : ¬ s.data.toList ∈ seen) : seenV s seen = 0 := if_neg h
theorem bad_eq (l2 : List S47) (k : Nat) (seen : List (List UInt8)) (x : S47) :
 badL seen (prevL l2 k) x = (!nameB x.f0 || decide (x.f1 < 0) || decide (x.f1 ≥ 65536) || decide (seenV x.f0 seen > 0) || (decide (0 < k) && decide (ordR (cmpI (rd_T47 l2 ((k : Int) - 1)).f1 x.f1) (Lib.compareBytes (rd_T47 l2 ((k : Int) - 1)).f0.data.toList x.f0.data.toList) > 0))) := by
 have hs : decide (seenV x.f0 seen > 0) = decide (x.f0.data.toList ∈ seen) := by
  by_cases h : x.f0.data.toList ∈ seen
  ·rw [seen_true h, decide_eq_true h]; rfl
  rw [seen_false h, decide_eq_false h]; rfl
 unfold badL
 rw [hs]
 congr 1
 unfold prevL
 by_cases h : k = 0
 ·subst h; rfl
 rw [if_neg h, decide_eq_true (show 0 < k by omega), Bool.true_and]
structure Lp (w wr : World) (gb : Nat) (box : Array Value) : Prop where
 hb : wr.heap[gb]? = some (.cells box 26 (0, 0))
 below : Below w.heap.size w wr

set_option maxRecDepth 100000 in
set_option maxHeartbeats 8000000 in
theorem check_calls (K : Nat) (mb : Bool) (A0 : Option Addr) (c0 : Nat) (l0 : List S42) (A1 : Option Addr) (c1 : Nat) (l1 : List S52) (A2 : Option Addr) (c2 : Nat) (l2 : List S47) (w : World)
 (hr0 : Kd.C k42 w A0 l0.length l0) (hc0 : l0.length ≤ c0) (hr1 : Kd.C k52 w A1 l1.length l1) (hc1 : l1.length ≤ c1) (hr2 : Kd.C k47 w A2 l2.length l2) (hc2 : l2.length ≤ c2)
 (hm : blocksB (-1) l0 = true → asm_marked.f K l0 l1 l2 = some mb) (hG : GOk w) (hl0 : l0.length ≤ 100000000000) (hl2 : l2.length ≤ 100000000000) :
 Calls Tryd.prog 6 #[.agg #[.slice A0 l0.length c0, .slice A1 l1.length c1, .slice A2 l2.length c2]] w fun e w' => e = .returned (.int .i64 (R6 l0 mb l2)) ∧ Below w.heap.size w w' := by
 have HR0 := Aside0.mk hr0
 have HR1 := Aside0.mk hr1
 have HR2 := Aside0.mk hr2
 have HC1 := Aside0.mk hc1
 have HC0 := Aside0.mk hc0
 have HC2 := Aside0.mk hc2
 have HM := Lib.hid hm
 have HG := Aside0.mk hG
 clear hr0 hr1 hr2 hm hG hc0 hc1 hc2
 have hmm := @run_makeMap Tryd.prog
 have hu26 := Tryd.underlying26
 have HB := Aside0.mk (Below.refl w.heap.size w)
 go_enter Tryd.func6, Tryd.ntmps6
 go_wp2
 go_loopw [3, 12] (fun v3 v12 wr => ∃ (k : Nat) (e : Int), k ≤ l0.length ∧ v12 = .int .i64 k ∧ v3 = .int .i64 e ∧ Aside0 (blocksB e (l0.drop k) = blocksB (-1) l0) ∧ Aside0 (Lp w wr w.heap.size #[.slice A0 l0.length c0, .slice A1 l1.length c1, .slice A2 l2.length c2])) (fun _ i _ => l0.length - (RowKit.intOf i).toNat)
 case atStart => exact ⟨0, -1, Nat.zero_le _, rfl, rfl, ⟨rfl⟩, ⟨⟨heap_alloc_new w _, below_alloc HB.out _⟩⟩⟩
 case round =>
  obtain ⟨k, e, hk, rfl, rfl, HE, HL⟩ := hrel
  by_cases hlt : k < l0.length
  ·have i0 : (k : Int) < (l0.length : Int) := by omega
   have i1 : (0 : Int) ≤ (k : Int) := by omega
   obtain ⟨ad, A1', c1', ea, hx0, hx1, hcc, hCC⟩ := at_T42 HR0.out (k : Int) i1 i0
   subst ea
   rw [Int.toNat_natCast] at hx0 hx1
   replace hx0 := (HL.out.below.cell (World.block_lt_of_cell? w _ hx0)).trans hx0
   replace hx1 := (HL.out.below.cell (World.block_lt_of_cell? w _ hx1)).trans hx1
   clear hCC hcc
   have hE2 := HE.out
   rw [drop42 hlt] at hE2
   generalize hx : rd_T42 l0 (k : Int) = x at hx0 hx1 hE2
   have HE2 := Aside0.mk hE2
   clear hE2 hx HE
   by_cases h0 : x.f0 ≤ e
   ·have h0b : decide (x.f0 ≤ e) = true := decide_eq_true h0
    go_wp2
    go_ret
    exact ⟨(congrArg (fun r => Ending.returned (.int .i64 r)) (R6_no0 (bad0 HE2.out (by simp [badB, h0])))).symm, below_alloc HL.out.below _⟩
   by_cases h1 : x.f0 < 0
   ·go_wp2
    go_ret
    exact ⟨(congrArg (fun r => Ending.returned (.int .i64 r)) (R6_no0 (bad0 HE2.out (by simp [badB, h1])))).symm, below_alloc HL.out.below _⟩
   by_cases h2 : (x.f1.length : Int) = 0
   ·have h2' : x.f1.length = 0 := by omega
    go_wp2
    go_ret
    exact ⟨(congrArg (fun r => Ending.returned (.int .i64 r)) (R6_no0 (bad0 HE2.out (by simp [badB, h2])))).symm, below_alloc HL.out.below _⟩
   have h2c : ((x.f1.length : Int) == 0) = false := beq_eq_false_iff_ne.2 (by omega)
   by_cases h3 : x.f0 ≥ 65536
   ·go_wp2
    go_ret
    exact ⟨(congrArg (fun r => Ending.returned (.int .i64 r)) (R6_no0 (bad0 HE2.out (by simp [badB, h3])))).symm, below_alloc HL.out.below _⟩
   by_cases h4 : (x.f1.length : Int) > 65536 - x.f0
   ·go_wp2
    go_ret
    exact ⟨(congrArg (fun r => Ending.returned (.int .i64 r)) (R6_no0 (bad0 HE2.out (by simp [badB, h4])))).symm, below_alloc HL.out.below _⟩
   have hg := good0 HE2.out (by unfold badB; rw [decide_eq_false h0, decide_eq_false h1, decide_eq_false h2, decide_eq_false h3, decide_eq_false h4]; rfl)
   have HG2 := Aside0.mk hg
   have h2b : ¬ x.f1.length = 0 := by omega
   clear hg
   go_wp2
   go_roundw
   case rel => exact ⟨k + 1, _, by omega, by go_num, rfl, HG2, ⟨⟨heap_old' HL.out.hb, below_alloc HL.out.below _⟩⟩⟩
   case measure => simp [RowKit.intOf]; omega
  obtain rfl : k = l0.length := by omega
  have hE2 := HE.out
  rw [List.drop_length] at hE2
  have HE2 := Aside0.mk hE2.symm
  clear hE2 HE
  have q0 : wr.cell? ⟨w.heap.size, 0, none⟩ = some (.slice A0 l0.length c0) := (blk_cell HL.out.hb 0).trans rfl
  have q1 : wr.cell? ⟨w.heap.size, 1, none⟩ = some (.slice A1 l1.length c1) := (blk_cell HL.out.hb 1).trans rfl
  have q2 : wr.cell? ⟨w.heap.size, 2, none⟩ = some (.slice A2 l2.length c2) := (blk_cell HL.out.hb 2).trans rfl
  have HB2 := Aside0.mk HE2.out
  cases hmb : mb with
  | false =>
   have HMB := Aside0.mk hmb
   have hf := HM.out HE2.out
   rw [hmb] at hf
   have HF := Aside0.mk hf
   clear hf hmb
   go_wp2_with (first | (go_at_call 16; (with_reducible refine (asm_marked.calls K A0 c0 l0 A1 c1 l1 A2 c2 l2 false _ (Kd.C_below HR0.out HL.out.below) HC0.out (Kd.C_below HR1.out HL.out.below) HC1.out (Kd.C_below HR2.out HL.out.below) HC2.out HF.out (GOk.below HG.out HL.out.below)).mono ?_); rintro e w1 ⟨rfl, hb⟩))
   go_ret
   exact ⟨(congrArg (fun r => Ending.returned (.int .i64 r)) (R6_no1 HMB.out)).symm, below_step HL.out.below hb⟩
  | true =>
   have HMB := Aside0.mk hmb
   have hf := HM.out HE2.out
   rw [hmb] at hf
   have HF := Aside0.mk hf
   clear hf hmb
   go_upto_region 12 with (first | (go_at_call 16; (with_reducible refine (asm_marked.calls K A0 c0 l0 A1 c1 l1 A2 c2 l2 true _ (Kd.C_below HR0.out HL.out.below) HC0.out (Kd.C_below HR1.out HL.out.below) HC1.out (Kd.C_below HR2.out HL.out.below) HC2.out HF.out (GOk.below HG.out HL.out.below)).mono ?_); rintro e w1 ⟨rfl, hb⟩; have HW1 := Aside0.mk (Lp.mk (box := #[.slice A0 l0.length c0, .slice A1 l1.length c1, .slice A2 l2.length c2]) (up1 hb HL.out.hb) (below_step HL.out.below hb)); have q3 : w1.cell? ⟨w.heap.size, 2, none⟩ = some (.slice A2 l2.length c2) := (blk_cell HW1.out.hb 2).trans rfl; clear q0 q1 q2 hb))
   have hW9 : Lp w (w1.alloc (Obj.map #[] 0)) w.heap.size #[.slice A0 l0.length c0, .slice A1 l1.length c1, .slice A2 l2.length c2] := ⟨heap_old' HW1.out.hb, below_alloc HW1.out.below _⟩
   have hMp := MapIs.made w1
   generalize w1.alloc (Obj.map #[] 0) = W9 at hW9 hMp ⊢
   have hBB : w.heap.size < w1.heap.size := blk_lt HW1.out.hb
   generalize w1.heap.size = B at hMp hBB ⊢
   have HBB := Aside0.mk hBB
   clear hBB
   have HW9 := Aside0.mk hW9
   have HMp := Aside0.mk hMp
   have q4 : W9.cell? ⟨w.heap.size, 2, none⟩ = some (.slice A2 l2.length c2) := (blk_cell hW9.hb 2).trans rfl
   clear hW9 hMp q3
   go_wp2
   go_loopw [59] (fun v59 wr => ∃ (k : Nat) (seen : List (List UInt8)), k ≤ l2.length ∧ v59 = .int .i64 k ∧ Aside0 (labelsB seen (prevL l2 k) (l2.drop k) = labelsB [] none l2) ∧ Aside0 (MapIs wr B k seen) ∧ Aside0 (Lp w wr w.heap.size #[.slice A0 l0.length c0, .slice A1 l1.length c1, .slice A2 l2.length c2])) (fun i _ => l2.length - (RowKit.intOf i).toNat)
   case atStart => exact ⟨0, [], Nat.zero_le _, rfl, ⟨rfl⟩, HMp, HW9⟩
   case round =>
    obtain ⟨k, seen, hk, rfl, HE, HMp2, HL⟩ := hrel
    by_cases hlt : k < l2.length
    ·have i0 : (k : Int) < (l2.length : Int) := by omega
     have i1 : (0 : Int) ≤ (k : Int) := by omega
     obtain ⟨ad, ea, hx0, hx1⟩ := at_T47 HR2.out (k : Int) i1 i0
     subst ea
     rw [Int.toNat_natCast] at hx0 hx1
     replace hx0 := (HL.out.below.cell (World.block_lt_of_cell? w _ hx0)).trans hx0
     replace hx1 := (HL.out.below.cell (World.block_lt_of_cell? w _ hx1)).trans hx1
     have hE2 := HE.out
     rw [drop47 hlt] at hE2
     have HX := Aside0.mk (show rd_T47 l2 (k : Int) = rd_T47 l2 (k : Int) from rfl)
     generalize hx : rd_T47 l2 (k : Int) = x at hx0 hx1 hE2
     have HX := Aside0.mk hx
     have HE2 := Aside0.mk hE2
     clear hE2 hx HE
     go_upto_region 15 with fail
     have hl8 : Lp w (wr.alloc (Obj.cells #[Value.string x.f0, Value.int .i64 x.f1] 47)) w.heap.size #[.slice A0 l0.length c0, .slice A1 l1.length c1, .slice (some ad) l2.length c2] := ⟨heap_old' HL.out.hb, below_alloc HL.out.below _⟩
     have hm8 : MapIs (wr.alloc (Obj.cells #[Value.string x.f0, Value.int .i64 x.f1] 47)) B k seen := MapIs.below HMp2.out (below_alloc (Below.refl _ _) _)
     have h8 := heap_alloc_new wr (Obj.cells #[Value.string x.f0, Value.int .i64 x.f1] 47)
     generalize wr.alloc (Obj.cells #[Value.string x.f0, Value.int .i64 x.f1] 47) = W8 at hl8 hm8 h8 ⊢
     generalize wr.heap.size = b8 at h8 ⊢
     have HL8 := Aside0.mk hl8
     have HM8 := Aside0.mk hm8
     have H8 := Aside0.mk h8
     have e0 : W8.cell? ⟨b8, 0, none⟩ = some (.string x.f0) := (blk_cell h8 0).trans rfl
     have e1 : W8.cell? ⟨b8, 1, none⟩ = some (.int .i64 x.f1) := (blk_cell h8 1).trans rfl
     have e2 : W8.cell? ⟨w.heap.size, 2, none⟩ = some (.slice (some ad) l2.length c2) := (blk_cell hl8.hb 2).trans rfl
     clear hl8 hm8 h8 hx0 hx1 q4 HMp2 HL
     have hF : Chk15.Fa w W8 k l2 c2 x (rd_T47 l2 ((k : Int) - 1)) (nameB x.f0) (decide (x.f1 < 0)) (decide (x.f1 ≥ 65536)) (decide (seenV x.f0 seen > 0)) (decide (0 < k)) (decide (ordR (cmpI (rd_T47 l2 ((k : Int) - 1)).f1 x.f1) (Lib.compareBytes (rd_T47 l2 ((k : Int) - 1)).f0.data.toList x.f0.data.toList) > 0)) (seenV x.f0 seen) (ordR (cmpI (rd_T47 l2 ((k : Int) - 1)).f1 x.f1) (Lib.compareBytes (rd_T47 l2 ((k : Int) - 1)).f0.data.toList x.f0.data.toList)) w.heap.size b8 B ad seen := by
      have hpp : decide (0 < k) = true → W8.cell? (ad.add ((k - 1) * 2)) = some (.string (rd_T47 l2 ((k : Int) - 1)).f0) ∧ W8.cell? ⟨(ad.add ((k - 1) * 2)).block, (ad.add ((k - 1) * 2)).off + 1, none⟩ = some (.int .i64 (rd_T47 l2 ((k : Int) - 1)).f1) := by
       intro hz
       have hz2 := of_decide_eq_true hz
       obtain ⟨ad', ea', p0, p1⟩ := at_T47 HR2.out ((k : Int) - 1) (by omega) (by omega)
       cases ea'
       rw [show ((k : Int) - 1).toNat = k - 1 by omega] at p0 p1
       exact ⟨(HL8.out.below.cell (World.block_lt_of_cell? w _ p0)).trans p0, (HL8.out.below.cell (World.block_lt_of_cell? w _ p1)).trans p1⟩
      exact ⟨e0, e1, e2, HM8.out, rfl, rfl, rfl, rfl, rfl, rfl, hlt, hl2, fun hz => (hpp hz).1, fun hz => (hpp hz).2, rfl, rfl⟩
     refine Chk15.region15 w W8 k l2 c2 x _ _ _ _ _ _ _ _ _ w.heap.size b8 B ad seen _ _ _ _ _ _ _ _ _ _ _ _ _ _ _ _ _ _ _ _ _ _ _ _ _ _ _ _ _ _ _ _ _ _ _ _ _ _ _ _ _ _ _ _ _ _ _ _ _ _ _ _ _ _ _ _ _ _ _ _ _ _ _ _ _ _ _ _ _ _ _ _ _ _ _ _ _ _ _ _ _ _ _ _ _ _ _ _ _ _ _ _ _ _ _ _ _ _ _ hF ?_ rfl
     intro x64 x65 x66 x67 x68 x69 x70 x71 x72 x73 x74 x75 x76 x77 x78 x79 x80 x81 x82 x83 x84 x85 x86 x87 x88 x89 x90 x91 x92 x93 x94 x95 x96 x97 x98 W2 hb2 c' hc'
     rw [← bad_eq] at hc'
     have H2 := Aside0.mk (up1 hb2 H8.out)
     have L2 := Aside0.mk (Lp.mk (up1 hb2 HL8.out.hb) (below_step HL8.out.below hb2))
     have M2 := Aside0.mk (MapIs.below HM8.out hb2)
     have z0 : W2.cell? ⟨b8, 0, none⟩ = some (.string x.f0) := (blk_cell H2.out 0).trans rfl
     clear hb2 hF e0 e1 e2
     cases hbad : badL seen (prevL l2 k) x with
     | true =>
      rw [hbad] at hc'
      have HBD := Aside0.mk hbad
      clear hbad
      subst hc'
      simp only [Exit.then]
      go_wp2
      go_ret
      exact ⟨(congrArg (fun r => Ending.returned (.int .i64 r)) (R6_no2 (badl HE2.out HBD.out))).symm, L2.out.below⟩
     | false =>
      rw [hbad] at hc'
      have hgl := goodl HE2.out hbad
      rw [← prevL_succ HX.out] at hgl
      have hnm : nameB x.f0 = true := by
       have := hbad; rw [bad_eq] at this; revert this; cases nameB x.f0 <;> simp
      have hsz : x.f0.size ≤ maxLen := by have := nameB_size hnm; simp only [maxLen]; omega
      obtain ⟨w4, hput, hM4, hg4⟩ := M2.out.put (show k < maxLen by simp only [maxLen]; omega) (s := x.f0) hsz
      have hL4 : Lp w w4 w.heap.size #[.slice A0 l0.length c0, .slice A1 l1.length c1, .slice (some ad) l2.length c2] := ⟨blk_grown L2.out.hb hg4 (by have := HBB.out; intro h; injection h with h; omega), L2.out.below.grown hg4 L2.out.below.size (fun j hj => by cases hj; have := HBB.out; omega)⟩
      have HL4 := Aside0.mk hL4
      have M4 := Aside0.mk hM4
      have HGL := Aside0.mk hgl
      clear hbad hgl hnm hsz hM4 hg4 hL4
      subst hc'
      simp only [Exit.then]
      go_wp2
      go_roundw
      case rel => exact ⟨k + 1, _, by omega, by go_num, HGL, M4, HL4⟩
      case measure => simp [RowKit.intOf]; omega
    obtain rfl : k = l2.length := by omega
    have hE2 := HE.out
    rw [List.drop_length] at hE2
    have HE2 := Aside0.mk hE2.symm
    clear hE2 HE
    go_wp2
    go_ret
    exact ⟨(congrArg (fun r => Ending.returned (.int .i64 r)) (R6_ok HB2.out HMB.out HE2.out)).symm, HL.out.below⟩
end Go.Proofs.YtbffmfeflcdgbaaDoor.Chk
