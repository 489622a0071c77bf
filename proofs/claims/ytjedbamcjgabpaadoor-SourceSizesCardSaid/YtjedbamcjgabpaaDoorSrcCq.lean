/- code.Parse, walked: a line read as an instruction. -/
import Derived.Test.YtjedbamcjgabpaaDoorSrcCp
import Derived.Test.YtjedbamcjgabpaaDoorSrcAll
import Derived.Test.YtjedbamcjgabpaaDoorShelf
import Derived.LoopTactic
set_option linter.unusedVariables false
set_option linter.unusedSimpArgs false
namespace Go.Proofs.YtjedbamcjgabpaaDoor.PSo
open Go Go.RowKit
open Go.Proofs.YtjedbamcjgabpaaDoorW.PrintWords
open Go.Proofs.YtjedbamcjgabpaaDoor.Src

/-- How far a line's first word goes. -/
def atS (l : List UInt8) : Nat := (l.takeWhile fun c => c != 32).length
theorem atS_le (l : List UInt8) : atS l ≤ l.length := (List.takeWhile_sublist _).length_le
theorem atS_before : ∀ (l : List UInt8) (k : Nat) (hk : k < atS l) (hl : k < l.length), l[k] ≠ 32
 | [], k, hk, hl => by simp at hl
 | c :: r, k, hk, hl => by
  unfold atS at hk
  rw [List.takeWhile_cons] at hk
  by_cases h : (c != 32) = true
  ·rw [if_pos h] at hk
   cases k with
   | zero => simpa using h
   | succ k => exact atS_before r k (by unfold atS; simpa using hk) (by simpa using hl)
  ·rw [if_neg h] at hk; simp at hk
theorem atS_there : ∀ (l : List UInt8) (hl : atS l < l.length), l[atS l] = 32
 | [], hl => by simp at hl
 | c :: r, hl => by
  by_cases h : (c != 32) = true
  ·have e : atS (c :: r) = atS r + 1 := by unfold atS; rw [List.takeWhile_cons, if_pos h]; rfl
   have h2 := atS_there r (by rw [e] at hl; simpa using hl)
   simp only [e, List.getElem_cons_succ]; exact h2
  ·have e : atS (c :: r) = 0 := by unfold atS; rw [List.takeWhile_cons, if_neg h]; rfl
   simp only [e, List.getElem_cons_zero]; simpa using h
theorem extract_all (a : ByteArray) : a.extract 0 a.size = a := by
 rw [← Lib.mk_data (a.extract 0 a.size), ← Lib.mk_data a]
 simp
theorem ext_empty (a : ByteArray) : a.extract a.size a.size = ByteArray.empty := by
 rw [← Lib.mk_data (a.extract a.size a.size)]
 simp
 rfl
theorem toList_inj {a b : ByteArray} (h : a.toList = b.toList) : a = b := by
 rw [Lib.toList_data, Lib.toList_data] at h
 rw [← Lib.mk_data a, ← Lib.mk_data b, h]
def argS (a : ByteArray) : Int := if (numR ⟨(Lib.trimPrefix (a.extract (atS a.data.toList) a.size).data.toList [32]).toArray⟩).2 = 0 then (numR ⟨(Lib.trimPrefix (a.extract (atS a.data.toList) a.size).data.toList [32]).toArray⟩).1 else 0
def code_Parse.f (a0 : ByteArray) : Option (ByteArray × Int × Int) := if a0.size ≤ 1000000 then ((code_Find.f 300 (a0.extract 0 (atS a0.data.toList))).bind fun x => if x.2.2.2.2 = true then ((code_Print.f (a0.extract 0 (atS a0.data.toList)) (argS a0)).bind fun p => if p.2 = 0 then (if p.1 = a0 then some (a0.extract 0 (atS a0.data.toList), argS a0, 0) else some (⟨#[]⟩, 0, 21)) else some (⟨#[]⟩, 0, 21)) else some (⟨#[]⟩, 0, 20)) else none

set_option maxRecDepth 100000 in
set_option maxHeartbeats 4000000 in
theorem code_Parse.calls (a0 : ByteArray) (r1 : ByteArray) (r2 r3 : Int) (w : World) (h : code_Parse.f a0 = some (r1, r2, r3))
 (hG : GOk w := by first | exact HG.out | exact GOk.below HG.out HB.out | exact GOk.below HG.out (by repeat (first | (with_reducible first | exact HB.out | apply below_alloc | apply pw_below_drewN | apply below_drew1 | refine below_set ?_ (Aside0.out (by assumption))) | exact HB.out))) :
 Calls Tryd.prog 67 #[.string a0] w fun e w' => e = .returned (.tuple #[.agg #[.string r1, .int .i64 r2], .int .i64 r3]) ∧ Below w.heap.size w w' := by
 unfold code_Parse.f at h
 by_cases hs : a0.size ≤ 1000000
 ·rw [if_pos hs] at h
  obtain ⟨n, hn⟩ : ∃ n, atS a0.data.toList = n := ⟨_, rfl⟩
  have hlen : a0.data.toList.length = a0.size := by simp
  have n1 : n ≤ a0.size := by rw [← hn, ← hlen]; exact atS_le _
  have hbf : ∀ (k : Nat) (hk : k < n) (hl : k < a0.size), a0[k] ≠ 32 := fun k hk hl => atS_before a0.data.toList k (by omega) (by simpa using hl)
  have hth : ∀ (hl : n < a0.size), a0[n] = 32 := fun hl => by
   have := atS_there a0.data.toList (by rw [hn]; simpa using hl)
   simp only [hn] at this
   exact this
  rw [hn] at h
  obtain ⟨nm, hnm⟩ : ∃ nm, a0.extract 0 n = nm := ⟨_, rfl⟩
  rw [hnm] at h
  have HBF := Aside0.mk hbf
  have HTH := Aside0.mk hth
  have HN := Aside0.mk hn
  have HNM := Aside0.mk hnm
  clear hbf hth hn hlen
  have HW0 := Aside0.mk (below_alloc (Below.refl w.heap.size w) (.cells #[.string ⟨#[]⟩, .int .i64 0] 80))
  have HR0 := Aside0.mk (blk_new w (.cells #[.string ⟨#[]⟩, .int .i64 0] 80))
  have HG0 := Aside0.mk (GOk.below hG HW0.out)
  have HGW := Aside0.mk hG
  clear hG
  have H := Aside0.mk h
  clear h
  by_cases hlt : n < a0.size
  ·have HLT := Aside0.mk hlt
   clear hlt hnm
   go_enter Tryd.func67, Tryd.ntmps67
   go_wp2
   go_step3
   go_wp2
   go_step3
   go_wp2
   generalize w.alloc (.cells #[.string ⟨#[]⟩, .int .i64 0] 80) = W0 at HW0 HR0 HG0 ⊢
   go_loop [4, 17] (fun v4 v17 => v4 = .int .i64 (a0.size : Int) ∧ ∃ k : Nat, k ≤ n ∧ v17 = .int .i64 (k : Int)) (fun _ v17 => n + 1 - (RowKit.intOf v17).toNat)
   case atStart => exact ⟨rfl, 0, Nat.zero_le _, rfl⟩
   case round =>
    obtain ⟨rfl, k, hk, rfl⟩ := hrel
    have hkl : k < a0.size := by have := HLT.out; omega
    by_cases hkn : k < n
    ·skip
     have b0 : (((a0[k].toNat : Nat) : Int) == 32) = false := by
      rw [beq_eq_false_iff_ne]
      intro e
      exact HBF.out k hkn hkl (UInt8.toNat_inj.1 (by show _ = 32; omega))
     go_wp2
     go_round
     case rel => exact ⟨rfl, k + 1, by omega, by go_num⟩
     case measure => simp [RowKit.intOf]; omega
    ·obtain rfl : k = n := by omega
     have b0 : (((a0[k].toNat : Nat) : Int) == 32) = true := by rw [HTH.out hkl]; rfl
     clear hkn
     have h := H.out
     cases hF : code_Find.f 300 nm with
     | none => rw [hF] at h; cases h
     | some x =>
      obtain ⟨x1, x2, x3, x4, x5⟩ := x
      rw [hF] at h
      simp only [Option.bind_some] at h
      have HF := Aside0.mk hF
      have H2 := Aside0.mk h
      clear h hF H
      go_wp2_with fail
      have HNM2 := HNM.out
      rw [HNM2]
      have HI := Aside0.mk (blk_new W0 (.cells #[.string nm, .int .i64 0] 80))
      have HR1 := Aside0.mk (blk_alloc HR0.out (.cells #[.string nm, .int .i64 0] 80))
      have HB1 := Aside0.mk (below_alloc HW0.out (.cells #[.string nm, .int .i64 0] 80))
      have HG1 := Aside0.mk (GOk.below HG0.out (below_alloc (Below.refl W0.heap.size W0) (.cells #[.string nm, .int .i64 0] 80)))
      have HZ0 := Aside0.mk (blk_lt HR0.out)
      clear HNM2 HR0 HW0 HG0
      obtain ⟨gi, hgi⟩ : ∃ gi, W0.heap.size = gi := ⟨_, rfl⟩
      rw [hgi] at HI HZ0 ⊢
      generalize W0.alloc (.cells #[.string nm, .int .i64 0] 80) = W1 at HI HR1 HB1 HG1 ⊢
      clear hgi
      (with_reducible refine (code_Find.calls 300 nm x1 x2 x3 x4 x5 _ HF.out HG1.out).mono ?_)
      rintro e w2 ⟨rfl, hb⟩
      have HB2 := Aside0.mk (below_step HB1.out hb)
      have HI2 := Aside0.mk (blk_below HI.out hb)
      have HR2 := Aside0.mk (blk_below HR1.out hb)
      have HG2 := Aside0.mk (GOk.below HG1.out hb)
      clear hb HB1 HI HR1 HG1
      have HB3 := Aside0.mk (below_alloc HB2.out (.cells #[.string x1, .int .u8 x2, .int .i64 x3, .int .i64 x4] 72))
      have HI3 := Aside0.mk (blk_alloc HI2.out (.cells #[.string x1, .int .u8 x2, .int .i64 x3, .int .i64 x4] 72))
      have HR3 := Aside0.mk (blk_alloc HR2.out (.cells #[.string x1, .int .u8 x2, .int .i64 x3, .int .i64 x4] 72))
      have HG3 := Aside0.mk (GOk.below HG2.out (below_alloc (Below.refl w2.heap.size w2) (.cells #[.string x1, .int .u8 x2, .int .i64 x3, .int .i64 x4] 72)))
      clear HB2 HI2 HR2 HG2
      have hne : ¬ gi = w.heap.size := by have := HZ0.out; omega
      have hne2 : ¬ w.heap.size = gi := fun e => hne e.symm
      cases x5 with
      | false =>
       have h2 := H2.out
       simp only [Bool.false_eq_true, if_false] at h2
       have h3 := Option.some.inj h2
       simp only [Prod.mk.injEq] at h3
       obtain ⟨rfl, rfl, rfl⟩ := h3
       clear h2 H2 HF
       have p0 := (blk_cell HR3.out 0).trans (rfl : _ = some (Value.string ⟨#[]⟩))
       have p1 := (blk_cell HR3.out 1).trans (rfl : _ = some (Value.int .i64 0))
       have f0 := blk_frozen HR3.out 0
       have f1 := blk_frozen HR3.out 1
       go_wp2
       (try rw [Exit.noGoto_ret])
       refine bodyPost_ret (results_ct rfl _ _ w.heap.size 80 #[.string ⟨#[]⟩, .int .i64 0] (0, 0) _ rfl (by (with_reducible repeat (first | refine blk_put (cs := #[.string ⟨#[]⟩, .int .i64 0]) ?_ _ _ rfl)); exact HR3.out) Tryd.underlying80 rfl (by kernel_rfl)) rfl ?_
       exact ⟨rfl, by (with_reducible repeat (first | refine below_set ?_ (Nat.le_refl _))); exact HB3.out⟩
      | true =>
       have h2 := H2.out
       rw [if_pos rfl] at h2
       clear H2 HF
       obtain ⟨t, ht⟩ : ∃ t : ByteArray, (⟨(Lib.trimPrefix (a0.extract k a0.size).data.toList [32]).toArray⟩ : ByteArray) = t := ⟨_, rfl⟩
       obtain ⟨v, hv⟩ : ∃ v, (numR t).1 = v := ⟨_, rfl⟩
       obtain ⟨ve, hve⟩ : ∃ ve, (numR t).2 = ve := ⟨_, rfl⟩
       have harg : argS a0 = if ve = 0 then v else 0 := by
        unfold argS
        rw [HN.out, ht, hv, hve]
       rw [harg] at h2
       have H2 := Aside0.mk h2
       have HT := Aside0.mk ht
       have HV := Aside0.mk (And.intro hv hve)
       clear h2 harg ht hv hve
       go_wp2_with fail
       generalize w2.alloc (.cells #[.string x1, .int .u8 x2, .int .i64 x3, .int .i64 x4] 72) = w3 at HB3 HI3 HR3 HG3 ⊢
       have q0 := (blk_cell HI3.out 0).trans (rfl : _ = some (Value.string nm))
       (with_reducible refine (Tryd.strings_TrimPrefix _ ⟨#[32]⟩ w3).mono ?_)
       rintro e w4 ⟨rfl, rfl⟩
       have HT2 := HT.out
       rw [HT2]
       go_wp2_with fail
       (with_reducible refine (number_calls t w4).mono ?_)
       rintro e w5 ⟨rfl, hb⟩
       rw [HV.out.1, HV.out.2]
       have HB4 := Aside0.mk (below_step HB3.out hb)
       have HI4 := Aside0.mk (blk_below HI3.out hb)
       have HR4 := Aside0.mk (blk_below HR3.out hb)
       have HG4 := Aside0.mk (GOk.below HG3.out hb)
       clear hb HT2 HB3 HI3 HR3 HG3 q0
       by_cases hve : ve = 0
       ·subst hve
        have h2 := H2.out
        rw [if_pos rfl] at h2
        have H3 := Aside0.mk h2
        clear h2 H2
        have q0 := (blk_cell HI4.out 0).trans (rfl : _ = some (Value.string nm))
        have q1 := (blk_cell HI4.out 1).trans (rfl : _ = some (Value.int .i64 0))
        have y1 := blk_frozen HI4.out 1
        go_wp2_with fail
        clear q0 q1 y1
        have HI5 := Aside0.mk (blk_put HI4.out 1 (.int .i64 v) rfl)
        have HR5 := Aside0.mk (blk_far HR4.out (p := ⟨gi, 1, none⟩) hne2 (.int .i64 v))
        have HB5 := Aside0.mk (below_set HB4.out (Nat.le_of_lt HZ0.out) (j := 1) (v := .int .i64 v))
        clear HI4 HR4 HB4
        have h3 := H3.out
        cases hP : code_Print.f nm v with
        | none => rw [hP] at h3; cases h3
        | some p =>
         obtain ⟨p1, p2⟩ := p
         rw [hP] at h3
         simp only [Option.bind_some] at h3
         have HP := Aside0.mk hP
         have H4 := Aside0.mk h3
         clear h3 hP H3
         (with_reducible refine (code_Print.calls nm v p1 p2 _ HP.out (GOk.below HGW.out HB5.out)).mono ?_)
         rintro e w6 ⟨rfl, hb⟩
         have HB6 := Aside0.mk (below_step HB5.out hb)
         have HI6 := Aside0.mk (blk_below HI5.out hb)
         have HR6 := Aside0.mk (blk_below HR5.out hb)
         clear hb HB5 HI5 HR5
         have p0 := (blk_cell HR6.out 0).trans (rfl : _ = some (Value.string ⟨#[]⟩))
         have p3 := (blk_cell HR6.out 1).trans (rfl : _ = some (Value.int .i64 0))
         have f0 := blk_frozen HR6.out 0
         have f1 := blk_frozen HR6.out 1
         by_cases hp2 : p2 = 0
         ·subst hp2
          have h4 := H4.out
          rw [if_pos rfl] at h4
          by_cases hp1 : p1 = a0
          ·obtain rfl : a0 = p1 := hp1.symm
           rw [if_pos rfl] at h4
           have h5 := Option.some.inj h4
           simp only [Prod.mk.injEq] at h5
           obtain ⟨rfl, rfl, rfl⟩ := h5
           clear h4 H4
           have q0 := (blk_cell HI6.out 0).trans (rfl : _ = some (Value.string nm))
           have q1 := (blk_cell HI6.out 1).trans (rfl : _ = some (Value.int .i64 v))
           go_wp2
           (try rw [Exit.noGoto_ret])
           refine bodyPost_ret (results_ct rfl _ _ w.heap.size 80 #[.string nm, .int .i64 v] (0, 0) _ rfl (blk_put (blk_put HR6.out 0 _ rfl) 1 _ rfl) Tryd.underlying80 rfl (by kernel_rfl)) rfl ?_
           exact ⟨rfl, below_set (below_set HB6.out (Nat.le_refl _)) (Nat.le_refl _)⟩
          ·rw [if_neg hp1] at h4
           have h5 := Option.some.inj h4
           simp only [Prod.mk.injEq] at h5
           obtain ⟨rfl, rfl, rfl⟩ := h5
           clear h4 H4
           have s1 : (p1.toList == a0.toList) = false := by rw [beq_eq_false_iff_ne]; intro e; exact hp1 (toList_inj e)
           have s2 : (p1.toList != a0.toList) = true := by rw [bne, s1]; rfl
           clear hp1
           go_wp2
           (try rw [Exit.noGoto_ret])
           refine bodyPost_ret (results_ct rfl _ _ w.heap.size 80 #[.string ⟨#[]⟩, .int .i64 0] (0, 0) _ rfl (blk_put (blk_put HR6.out 0 _ rfl) 1 _ rfl) Tryd.underlying80 rfl (by kernel_rfl)) rfl ?_
           exact ⟨rfl, below_set (below_set HB6.out (Nat.le_refl _)) (Nat.le_refl _)⟩
         ·have h4 := H4.out
          rw [if_neg hp2] at h4
          have h5 := Option.some.inj h4
          simp only [Prod.mk.injEq] at h5
          obtain ⟨rfl, rfl, rfl⟩ := h5
          clear h4 H4
          have t1 : (p2 != 0) = true := bne_iff_ne.2 hp2
          have t2 : (p2 == 0) = false := beq_eq_false_iff_ne.2 hp2
          clear hp2
          go_wp2
          (try rw [Exit.noGoto_ret])
          refine bodyPost_ret (results_ct rfl _ _ w.heap.size 80 #[.string ⟨#[]⟩, .int .i64 0] (0, 0) _ rfl (blk_put (blk_put HR6.out 0 _ rfl) 1 _ rfl) Tryd.underlying80 rfl (by kernel_rfl)) rfl ?_
          exact ⟨rfl, below_set (below_set HB6.out (Nat.le_refl _)) (Nat.le_refl _)⟩
       ·have h2 := H2.out
        rw [if_neg hve] at h2
        have H3 := Aside0.mk h2
        clear h2 H2
        have t1 : (ve == 0) = false := beq_eq_false_iff_ne.2 hve
        clear hve
        have q0 := (blk_cell HI4.out 0).trans (rfl : _ = some (Value.string nm))
        have q1 := (blk_cell HI4.out 1).trans (rfl : _ = some (Value.int .i64 0))
        go_wp2_with fail
        have h3 := H3.out
        cases hP : code_Print.f nm 0 with
        | none => rw [hP] at h3; cases h3
        | some p =>
         obtain ⟨p1, p2⟩ := p
         rw [hP] at h3
         simp only [Option.bind_some] at h3
         have HP := Aside0.mk hP
         have H4 := Aside0.mk h3
         clear h3 hP H3
         (with_reducible refine (code_Print.calls nm 0 p1 p2 _ HP.out (GOk.below HGW.out HB4.out)).mono ?_)
         rintro e w6 ⟨rfl, hb⟩
         have HB6 := Aside0.mk (below_step HB4.out hb)
         have HI6 := Aside0.mk (blk_below HI4.out hb)
         have HR6 := Aside0.mk (blk_below HR4.out hb)
         clear hb HB4 HI4 HR4
         have p0 := (blk_cell HR6.out 0).trans (rfl : _ = some (Value.string ⟨#[]⟩))
         have p3 := (blk_cell HR6.out 1).trans (rfl : _ = some (Value.int .i64 0))
         have f0 := blk_frozen HR6.out 0
         have f1 := blk_frozen HR6.out 1
         by_cases hp2 : p2 = 0
         ·subst hp2
          have h4 := H4.out
          rw [if_pos rfl] at h4
          by_cases hp1 : p1 = a0
          ·obtain rfl : a0 = p1 := hp1.symm
           rw [if_pos rfl] at h4
           have h5 := Option.some.inj h4
           simp only [Prod.mk.injEq] at h5
           obtain ⟨rfl, rfl, rfl⟩ := h5
           clear h4 H4
           have q0 := (blk_cell HI6.out 0).trans (rfl : _ = some (Value.string nm))
           have q1 := (blk_cell HI6.out 1).trans (rfl : _ = some (Value.int .i64 0))
           go_wp2
           (try rw [Exit.noGoto_ret])
           refine bodyPost_ret (results_ct rfl _ _ w.heap.size 80 #[.string nm, .int .i64 0] (0, 0) _ rfl (blk_put (blk_put HR6.out 0 _ rfl) 1 _ rfl) Tryd.underlying80 rfl (by kernel_rfl)) rfl ?_
           exact ⟨rfl, below_set (below_set HB6.out (Nat.le_refl _)) (Nat.le_refl _)⟩
          ·rw [if_neg hp1] at h4
           have h5 := Option.some.inj h4
           simp only [Prod.mk.injEq] at h5
           obtain ⟨rfl, rfl, rfl⟩ := h5
           clear h4 H4
           have s1 : (p1.toList == a0.toList) = false := by rw [beq_eq_false_iff_ne]; intro e; exact hp1 (toList_inj e)
           have s2 : (p1.toList != a0.toList) = true := by rw [bne, s1]; rfl
           clear hp1
           go_wp2
           (try rw [Exit.noGoto_ret])
           refine bodyPost_ret (results_ct rfl _ _ w.heap.size 80 #[.string ⟨#[]⟩, .int .i64 0] (0, 0) _ rfl (blk_put (blk_put HR6.out 0 _ rfl) 1 _ rfl) Tryd.underlying80 rfl (by kernel_rfl)) rfl ?_
           exact ⟨rfl, below_set (below_set HB6.out (Nat.le_refl _)) (Nat.le_refl _)⟩
         ·have h4 := H4.out
          rw [if_neg hp2] at h4
          have h5 := Option.some.inj h4
          simp only [Prod.mk.injEq] at h5
          obtain ⟨rfl, rfl, rfl⟩ := h5
          clear h4 H4
          have t1 : (p2 != 0) = true := bne_iff_ne.2 hp2
          have t2 : (p2 == 0) = false := beq_eq_false_iff_ne.2 hp2
          clear hp2
          go_wp2
          (try rw [Exit.noGoto_ret])
          refine bodyPost_ret (results_ct rfl _ _ w.heap.size 80 #[.string ⟨#[]⟩, .int .i64 0] (0, 0) _ rfl (blk_put (blk_put HR6.out 0 _ rfl) 1 _ rfl) Tryd.underlying80 rfl (by kernel_rfl)) rfl ?_
          exact ⟨rfl, below_set (below_set HB6.out (Nat.le_refl _)) (Nat.le_refl _)⟩
  ·obtain rfl : n = a0.size := by omega
   obtain rfl : a0 = nm := by rw [← HNM.out]; exact (extract_all a0).symm
   clear hlt hnm
   go_enter Tryd.func67, Tryd.ntmps67
   go_wp2
   go_step3
   go_wp2
   go_step3
   go_wp2
   generalize w.alloc (.cells #[.string ⟨#[]⟩, .int .i64 0] 80) = W0 at HW0 HR0 HG0 ⊢
   go_loop [4, 17] (fun v4 v17 => v4 = .int .i64 (a0.size : Int) ∧ ∃ k : Nat, k ≤ a0.size ∧ v17 = .int .i64 (k : Int)) (fun _ v17 => a0.size + 1 - (RowKit.intOf v17).toNat)
   case atStart => exact ⟨rfl, 0, Nat.zero_le _, rfl⟩
   case round =>
    obtain ⟨rfl, k, hk, rfl⟩ := hrel
    by_cases hkn : k < a0.size
    ·have hkl : k < a0.size := hkn
     have b0 : (((a0[k].toNat : Nat) : Int) == 32) = false := by
      rw [beq_eq_false_iff_ne]
      intro e
      exact HBF.out k hkn hkl (UInt8.toNat_inj.1 (by show _ = 32; omega))
     go_wp2
     go_round
     case rel => exact ⟨rfl, k + 1, by omega, by go_num⟩
     case measure => simp [RowKit.intOf]; omega
    ·obtain rfl : k = a0.size := by omega
     clear hkn
     have h := H.out
     cases hF : code_Find.f 300 a0 with
     | none => rw [hF] at h; cases h
     | some x =>
      obtain ⟨x1, x2, x3, x4, x5⟩ := x
      rw [hF] at h
      simp only [Option.bind_some] at h
      have HF := Aside0.mk hF
      have H2 := Aside0.mk h
      clear h hF H
      go_wp2_with fail
      have HNM2 := HNM
      have HI := Aside0.mk (blk_new W0 (.cells #[.string a0, .int .i64 0] 80))
      have HR1 := Aside0.mk (blk_alloc HR0.out (.cells #[.string a0, .int .i64 0] 80))
      have HB1 := Aside0.mk (below_alloc HW0.out (.cells #[.string a0, .int .i64 0] 80))
      have HG1 := Aside0.mk (GOk.below HG0.out (below_alloc (Below.refl W0.heap.size W0) (.cells #[.string a0, .int .i64 0] 80)))
      have HZ0 := Aside0.mk (blk_lt HR0.out)
      clear HNM2 HR0 HW0 HG0
      obtain ⟨gi, hgi⟩ : ∃ gi, W0.heap.size = gi := ⟨_, rfl⟩
      rw [hgi] at HI HZ0 ⊢
      generalize W0.alloc (.cells #[.string a0, .int .i64 0] 80) = W1 at HI HR1 HB1 HG1 ⊢
      clear hgi
      (with_reducible refine (code_Find.calls 300 a0 x1 x2 x3 x4 x5 _ HF.out HG1.out).mono ?_)
      rintro e w2 ⟨rfl, hb⟩
      have HB2 := Aside0.mk (below_step HB1.out hb)
      have HI2 := Aside0.mk (blk_below HI.out hb)
      have HR2 := Aside0.mk (blk_below HR1.out hb)
      have HG2 := Aside0.mk (GOk.below HG1.out hb)
      clear hb HB1 HI HR1 HG1
      have HB3 := Aside0.mk (below_alloc HB2.out (.cells #[.string x1, .int .u8 x2, .int .i64 x3, .int .i64 x4] 72))
      have HI3 := Aside0.mk (blk_alloc HI2.out (.cells #[.string x1, .int .u8 x2, .int .i64 x3, .int .i64 x4] 72))
      have HR3 := Aside0.mk (blk_alloc HR2.out (.cells #[.string x1, .int .u8 x2, .int .i64 x3, .int .i64 x4] 72))
      have HG3 := Aside0.mk (GOk.below HG2.out (below_alloc (Below.refl w2.heap.size w2) (.cells #[.string x1, .int .u8 x2, .int .i64 x3, .int .i64 x4] 72)))
      clear HB2 HI2 HR2 HG2
      have hne : ¬ gi = w.heap.size := by have := HZ0.out; omega
      have hne2 : ¬ w.heap.size = gi := fun e => hne e.symm
      cases x5 with
      | false =>
       have h2 := H2.out
       simp only [Bool.false_eq_true, if_false] at h2
       have h3 := Option.some.inj h2
       simp only [Prod.mk.injEq] at h3
       obtain ⟨rfl, rfl, rfl⟩ := h3
       clear h2 H2 HF
       have p0 := (blk_cell HR3.out 0).trans (rfl : _ = some (Value.string ⟨#[]⟩))
       have p1 := (blk_cell HR3.out 1).trans (rfl : _ = some (Value.int .i64 0))
       have f0 := blk_frozen HR3.out 0
       have f1 := blk_frozen HR3.out 1
       go_wp2
       (try rw [Exit.noGoto_ret])
       refine bodyPost_ret (results_ct rfl _ _ w.heap.size 80 #[.string ⟨#[]⟩, .int .i64 0] (0, 0) _ rfl (by (with_reducible repeat (first | refine blk_put (cs := #[.string ⟨#[]⟩, .int .i64 0]) ?_ _ _ rfl)); exact HR3.out) Tryd.underlying80 rfl (by kernel_rfl)) rfl ?_
       exact ⟨rfl, by (with_reducible repeat (first | refine below_set ?_ (Nat.le_refl _))); exact HB3.out⟩
      | true =>
       have h2 := H2.out
       rw [if_pos rfl] at h2
       clear H2 HF
       obtain ⟨t, ht⟩ : ∃ t : ByteArray, (⟨(Lib.trimPrefix (ByteArray.empty).data.toList [32]).toArray⟩ : ByteArray) = t := ⟨_, rfl⟩
       obtain ⟨v, hv⟩ : ∃ v, (numR t).1 = v := ⟨_, rfl⟩
       obtain ⟨ve, hve⟩ : ∃ ve, (numR t).2 = ve := ⟨_, rfl⟩
       have harg : argS a0 = if ve = 0 then v else 0 := by
        unfold argS
        rw [HN.out, ext_empty, ht, hv, hve]
       rw [harg] at h2
       have H2 := Aside0.mk h2
       have HT := Aside0.mk ht
       have HV := Aside0.mk (And.intro hv hve)
       clear h2 harg ht hv hve
       go_wp2_with fail
       generalize w2.alloc (.cells #[.string x1, .int .u8 x2, .int .i64 x3, .int .i64 x4] 72) = w3 at HB3 HI3 HR3 HG3 ⊢
       have q0 := (blk_cell HI3.out 0).trans (rfl : _ = some (Value.string a0))
       (with_reducible refine (Tryd.strings_TrimPrefix _ ⟨#[32]⟩ w3).mono ?_)
       rintro e w4 ⟨rfl, rfl⟩
       have HT2 := HT.out
       rw [HT2]
       go_wp2_with fail
       (with_reducible refine (number_calls t w4).mono ?_)
       rintro e w5 ⟨rfl, hb⟩
       rw [HV.out.1, HV.out.2]
       have HB4 := Aside0.mk (below_step HB3.out hb)
       have HI4 := Aside0.mk (blk_below HI3.out hb)
       have HR4 := Aside0.mk (blk_below HR3.out hb)
       have HG4 := Aside0.mk (GOk.below HG3.out hb)
       clear hb HT2 HB3 HI3 HR3 HG3 q0
       by_cases hve : ve = 0
       ·subst hve
        have h2 := H2.out
        rw [if_pos rfl] at h2
        have H3 := Aside0.mk h2
        clear h2 H2
        have q0 := (blk_cell HI4.out 0).trans (rfl : _ = some (Value.string a0))
        have q1 := (blk_cell HI4.out 1).trans (rfl : _ = some (Value.int .i64 0))
        have y1 := blk_frozen HI4.out 1
        go_wp2_with fail
        clear q0 q1 y1
        have HI5 := Aside0.mk (blk_put HI4.out 1 (.int .i64 v) rfl)
        have HR5 := Aside0.mk (blk_far HR4.out (p := ⟨gi, 1, none⟩) hne2 (.int .i64 v))
        have HB5 := Aside0.mk (below_set HB4.out (Nat.le_of_lt HZ0.out) (j := 1) (v := .int .i64 v))
        clear HI4 HR4 HB4
        have h3 := H3.out
        cases hP : code_Print.f a0 v with
        | none => rw [hP] at h3; cases h3
        | some p =>
         obtain ⟨p1, p2⟩ := p
         rw [hP] at h3
         simp only [Option.bind_some] at h3
         have HP := Aside0.mk hP
         have H4 := Aside0.mk h3
         clear h3 hP H3
         (with_reducible refine (code_Print.calls a0 v p1 p2 _ HP.out (GOk.below HGW.out HB5.out)).mono ?_)
         rintro e w6 ⟨rfl, hb⟩
         have HB6 := Aside0.mk (below_step HB5.out hb)
         have HI6 := Aside0.mk (blk_below HI5.out hb)
         have HR6 := Aside0.mk (blk_below HR5.out hb)
         clear hb HB5 HI5 HR5
         have p0 := (blk_cell HR6.out 0).trans (rfl : _ = some (Value.string ⟨#[]⟩))
         have p3 := (blk_cell HR6.out 1).trans (rfl : _ = some (Value.int .i64 0))
         have f0 := blk_frozen HR6.out 0
         have f1 := blk_frozen HR6.out 1
         by_cases hp2 : p2 = 0
         ·subst hp2
          have h4 := H4.out
          rw [if_pos rfl] at h4
          by_cases hp1 : p1 = a0
          ·obtain rfl : a0 = p1 := hp1.symm
           rw [if_pos rfl] at h4
           have h5 := Option.some.inj h4
           simp only [Prod.mk.injEq] at h5
           obtain ⟨rfl, rfl, rfl⟩ := h5
           clear h4 H4
           have q0 := (blk_cell HI6.out 0).trans (rfl : _ = some (Value.string a0))
           have q1 := (blk_cell HI6.out 1).trans (rfl : _ = some (Value.int .i64 v))
           go_wp2
           (try rw [Exit.noGoto_ret])
           refine bodyPost_ret (results_ct rfl _ _ w.heap.size 80 #[.string a0, .int .i64 v] (0, 0) _ rfl (blk_put (blk_put HR6.out 0 _ rfl) 1 _ rfl) Tryd.underlying80 rfl (by kernel_rfl)) rfl ?_
           exact ⟨rfl, below_set (below_set HB6.out (Nat.le_refl _)) (Nat.le_refl _)⟩
          ·rw [if_neg hp1] at h4
           have h5 := Option.some.inj h4
           simp only [Prod.mk.injEq] at h5
           obtain ⟨rfl, rfl, rfl⟩ := h5
           clear h4 H4
           have s1 : (p1.toList == a0.toList) = false := by rw [beq_eq_false_iff_ne]; intro e; exact hp1 (toList_inj e)
           have s2 : (p1.toList != a0.toList) = true := by rw [bne, s1]; rfl
           clear hp1
           go_wp2
           (try rw [Exit.noGoto_ret])
           refine bodyPost_ret (results_ct rfl _ _ w.heap.size 80 #[.string ⟨#[]⟩, .int .i64 0] (0, 0) _ rfl (blk_put (blk_put HR6.out 0 _ rfl) 1 _ rfl) Tryd.underlying80 rfl (by kernel_rfl)) rfl ?_
           exact ⟨rfl, below_set (below_set HB6.out (Nat.le_refl _)) (Nat.le_refl _)⟩
         ·have h4 := H4.out
          rw [if_neg hp2] at h4
          have h5 := Option.some.inj h4
          simp only [Prod.mk.injEq] at h5
          obtain ⟨rfl, rfl, rfl⟩ := h5
          clear h4 H4
          have t1 : (p2 != 0) = true := bne_iff_ne.2 hp2
          have t2 : (p2 == 0) = false := beq_eq_false_iff_ne.2 hp2
          clear hp2
          go_wp2
          (try rw [Exit.noGoto_ret])
          refine bodyPost_ret (results_ct rfl _ _ w.heap.size 80 #[.string ⟨#[]⟩, .int .i64 0] (0, 0) _ rfl (blk_put (blk_put HR6.out 0 _ rfl) 1 _ rfl) Tryd.underlying80 rfl (by kernel_rfl)) rfl ?_
          exact ⟨rfl, below_set (below_set HB6.out (Nat.le_refl _)) (Nat.le_refl _)⟩
       ·have h2 := H2.out
        rw [if_neg hve] at h2
        have H3 := Aside0.mk h2
        clear h2 H2
        have t1 : (ve == 0) = false := beq_eq_false_iff_ne.2 hve
        clear hve
        have q0 := (blk_cell HI4.out 0).trans (rfl : _ = some (Value.string a0))
        have q1 := (blk_cell HI4.out 1).trans (rfl : _ = some (Value.int .i64 0))
        go_wp2_with fail
        have h3 := H3.out
        cases hP : code_Print.f a0 0 with
        | none => rw [hP] at h3; cases h3
        | some p =>
         obtain ⟨p1, p2⟩ := p
         rw [hP] at h3
         simp only [Option.bind_some] at h3
         have HP := Aside0.mk hP
         have H4 := Aside0.mk h3
         clear h3 hP H3
         (with_reducible refine (code_Print.calls a0 0 p1 p2 _ HP.out (GOk.below HGW.out HB4.out)).mono ?_)
         rintro e w6 ⟨rfl, hb⟩
         have HB6 := Aside0.mk (below_step HB4.out hb)
         have HI6 := Aside0.mk (blk_below HI4.out hb)
         have HR6 := Aside0.mk (blk_below HR4.out hb)
         clear hb HB4 HI4 HR4
         have p0 := (blk_cell HR6.out 0).trans (rfl : _ = some (Value.string ⟨#[]⟩))
         have p3 := (blk_cell HR6.out 1).trans (rfl : _ = some (Value.int .i64 0))
         have f0 := blk_frozen HR6.out 0
         have f1 := blk_frozen HR6.out 1
         by_cases hp2 : p2 = 0
         ·subst hp2
          have h4 := H4.out
          rw [if_pos rfl] at h4
          by_cases hp1 : p1 = a0
          ·obtain rfl : a0 = p1 := hp1.symm
           rw [if_pos rfl] at h4
           have h5 := Option.some.inj h4
           simp only [Prod.mk.injEq] at h5
           obtain ⟨rfl, rfl, rfl⟩ := h5
           clear h4 H4
           have q0 := (blk_cell HI6.out 0).trans (rfl : _ = some (Value.string a0))
           have q1 := (blk_cell HI6.out 1).trans (rfl : _ = some (Value.int .i64 0))
           go_wp2
           (try rw [Exit.noGoto_ret])
           refine bodyPost_ret (results_ct rfl _ _ w.heap.size 80 #[.string a0, .int .i64 0] (0, 0) _ rfl (blk_put (blk_put HR6.out 0 _ rfl) 1 _ rfl) Tryd.underlying80 rfl (by kernel_rfl)) rfl ?_
           exact ⟨rfl, below_set (below_set HB6.out (Nat.le_refl _)) (Nat.le_refl _)⟩
          ·rw [if_neg hp1] at h4
           have h5 := Option.some.inj h4
           simp only [Prod.mk.injEq] at h5
           obtain ⟨rfl, rfl, rfl⟩ := h5
           clear h4 H4
           have s1 : (p1.toList == a0.toList) = false := by rw [beq_eq_false_iff_ne]; intro e; exact hp1 (toList_inj e)
           have s2 : (p1.toList != a0.toList) = true := by rw [bne, s1]; rfl
           clear hp1
           go_wp2
           (try rw [Exit.noGoto_ret])
           refine bodyPost_ret (results_ct rfl _ _ w.heap.size 80 #[.string ⟨#[]⟩, .int .i64 0] (0, 0) _ rfl (blk_put (blk_put HR6.out 0 _ rfl) 1 _ rfl) Tryd.underlying80 rfl (by kernel_rfl)) rfl ?_
           exact ⟨rfl, below_set (below_set HB6.out (Nat.le_refl _)) (Nat.le_refl _)⟩
         ·have h4 := H4.out
          rw [if_neg hp2] at h4
          have h5 := Option.some.inj h4
          simp only [Prod.mk.injEq] at h5
          obtain ⟨rfl, rfl, rfl⟩ := h5
          clear h4 H4
          have t1 : (p2 != 0) = true := bne_iff_ne.2 hp2
          have t2 : (p2 == 0) = false := beq_eq_false_iff_ne.2 hp2
          clear hp2
          go_wp2
          (try rw [Exit.noGoto_ret])
          refine bodyPost_ret (results_ct rfl _ _ w.heap.size 80 #[.string ⟨#[]⟩, .int .i64 0] (0, 0) _ rfl (blk_put (blk_put HR6.out 0 _ rfl) 1 _ rfl) Tryd.underlying80 rfl (by kernel_rfl)) rfl ?_
          exact ⟨rfl, below_set (below_set HB6.out (Nat.le_refl _)) (Nat.le_refl _)⟩
 ·rw [if_neg hs] at h; cases h
end Go.Proofs.YtjedbamcjgabpaaDoor.PSo
