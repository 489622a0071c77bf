/- script.read: a line whose first word is a number that a span may have. -/
import Derived.Test.YtdjffafcmomalaaDoorScrReadI
import Derived.Test.YtdjffafcmomalaaDoorScrRead
import Derived.Deep.RegionHeld3
import Derived.Lib.SlicesS
import Derived.MapKept
set_option linter.unusedVariables false
set_option linter.unusedSimpArgs false
namespace Go.Proofs.YtdjffafcmomalaaDoor.Scr
open Go Go.RowKit
open Go.Proofs.YtdjffafcmomalaaDoorW.PrintWords Go.Proofs.YtdjffafcmomalaaDoor.PScr

theorem str_ne (x : ByteArray) (l : List UInt8) (h : x ≠ ⟨l.toArray⟩) : (x.toList == l) = false := by
  have e : (⟨l.toArray⟩ : ByteArray).toList = l := by rw [ByteArray.toList_eq]
  rw [← e]
  exact (Lib.bytes_beq_false_iff x ⟨l.toArray⟩).2 h
theorem str_ne' (x : ByteArray) (l : List UInt8) (h : x ≠ ⟨l.toArray⟩) : (l == x.toList) = false := by
  have e : (⟨l.toArray⟩ : ByteArray).toList = l := by rw [ByteArray.toList_eq]
  rw [← e]
  exact (Lib.bytes_beq_false_iff ⟨l.toArray⟩ x).2 (fun h2 => h h2.symm)
theorem beq_list (a b : ByteArray) : (a.toList == b.toList) = (a == b) := by
  rw [Bool.eq_iff_iff, Lib.bytes_beq_iff, MapKept.bytes_beq]
theorem count_le (l : ByteArray) : Lib.countB l blank ≤ l.size := Lib.countB_le blank (by decide) l.size l (Nat.le_refl _)
theorem split_words (l : ByteArray) (W : List ByteArray) (hW : wordsOf l = W) (m : Int) (w : World) (hl : l.size ≤ 70000) (hm : w.cell? ⟨0, 0, none⟩ = some (.int .i64 m)) :
    Calls Tryd.prog 62 #[.string l, .string ⟨#[32]⟩] w fun e w' => e = .returned (.slice (some ⟨w.heap.size, 0, none⟩) W.length W.length) ∧ w' = w.alloc (.cells (W.map Value.string).toArray 9) := by
  subst hW
  refine (Tryd.strings_Split l blank m w (by omega) hm (by decide)).mono ?_
  rintro e w' ⟨rfl, rfl⟩
  exact ⟨by rw [words_len], rfl⟩

set_option maxRecDepth 100000 in
set_option maxHeartbeats 16000000 in
theorem read_ok (l : ByteArray) (w0 : World) (hl : l.size ≤ 70000) (hG : GOk w0) (x0 : ByteArray) (W : List ByteArray) (hW : wordsOf l = W) (hx : W.headD ⟨#[]⟩ = x0) (hxs : x0.size ≤ 1000000) (v : Int) (h : Lib.atoiAll x0.data.toList = .ok v) (v1 : 1 ≤ v) (v2 : v ≤ 1048576) (R : S34 × Bool)
    (hR : R = ((loopW (zero34 v) W.tail).1, (loopW (zero34 v) W.tail).2 && (lineB (loopW (zero34 v) W.tail).1 == l))) :
    Calls Tryd.prog 43 #[.string l] w0 fun e w' => e = .returned (.tuple #[.agg #[.int .i64 R.1.f0, .int .u16 R.1.f1, .bool R.1.f2, .bool R.1.f3, .bool R.1.f4, .bool R.1.f5, .bool R.1.f6, .bool R.1.f7, .bool R.1.f8, .int .u8 R.1.f9], .bool R.2]) ∧ Below w0.heap.size w0 w' := by
  have HG := Aside0.mk hG
  have HX := Aside0.mk hx
  have HA := Aside0.mk h
  have HRR := Aside0.mk hR
  have HW := Aside0.mk hW
  have WL : Aside0 (0 < W.length) := ⟨by rw [← hW, words_len]; omega⟩
  have wl : W.length ≤ 100000 := by rw [← hW, words_len]; have := count_le l; omega
  clear hG hx h hR hW
  have ZB0 : Aside0 (Bx (zero34 0) w0.heap.size (w0.alloc (.cells #[.int .i64 0, .int .u16 0, .bool false, .bool false, .bool false, .bool false, .bool false, .bool false, .bool false, .int .u8 0] 34))) := ⟨heap_alloc_new w0 _⟩
  have B0 := Aside0.mk (below_alloc (Below.refl w0.heap.size w0) (.cells #[.int .i64 0, .int .u16 0, .bool false, .bool false, .bool false, .bool false, .bool false, .bool false, .bool false, .int .u8 0] 34))
  go_enter Tryd.func43, Tryd.ntmps43
  go_wp2_with fail
  generalize w0.alloc (.cells #[.int .i64 0, .int .u16 0, .bool false, .bool false, .bool false, .bool false, .bool false, .bool false, .bool false, .int .u8 0] 34) = w at ZB0 B0 ⊢
  obtain ⟨m, hm⟩ := (GOk.below HG.out B0.out).max
  (with_reducible refine (split_words l W HW.out m w hl hm).mono ?_)
  rintro e w1 ⟨rfl, hw1⟩
  have W1 : Aside0 (Wd W w.heap.size w1) := ⟨by rw [hw1]; exact heap_alloc_new w _⟩
  have hb1 : Below w.heap.size w w1 := by rw [hw1]; exact below_alloc (Below.refl _ _) _
  have Z1 := Aside0.mk (ZB0.out.below hb1)
  have B1 := Aside0.mk (below_step B0.out hb1)
  clear hm hw1 hb1 ZB0 B0
  generalize w.heap.size = wb at W1 ⊢
  have k0 := WL.out
  have q0 : w1.cell? ⟨wb, 0, none⟩ = some (.string x0) := by rw [W1.out.head k0, HX.out]
  go_wp2_with fail
  clear q0
  (with_reducible refine (atoi_ok x0 hxs v HA.out w1).mono ?_)
  rintro e w2 ⟨rfl, hb⟩
  have Z2 := Aside0.mk (Z1.out.below hb)
  have I0 : Aside0 (Inv w0 W w2.heap.size wb (zero34 v) (w2.alloc (.cells #[.int .i64 v, .int .u16 0, .bool false, .bool false, .bool false, .bool false, .bool false, .bool false, .bool false, .int .u8 0] 34))) := ⟨⟨heap_alloc_new w2 _, Z2.out.below (below_alloc (Below.refl _ _) _), (W1.out.keep (fun k hk => hb.block k hk)).keep (fun k hk => (below_alloc (Below.refl w2.heap.size w2) _).block k hk), below_alloc (below_step B1.out hb) _, blk_lt Z2.out⟩⟩
  clear hb Z1 B1 W1 Z2
  have nv : ¬ v < 1 := by omega
  have nv2 : ¬ 1048576 < v := by omega
  go_wp2
  generalize w2.alloc (.cells #[.int .i64 v, .int .u16 0, .bool false, .bool false, .bool false, .bool false, .bool false, .bool false, .bool false, .int .u8 0] 34) = w3 at I0 ⊢
  generalize w2.heap.size = g at I0 ⊢
  have L0 : Aside0 (loopW (zero34 v) (W.drop 1) = loopW (zero34 v) W.tail ∧ okS (zero34 v) = true) := ⟨by rw [List.drop_one], by unfold okS zero34; simp only [Bool.and_eq_true, decide_eq_true_eq]; omega⟩
  clear k0
  go_loopw [8] (fun i wr => ∃ (k : Nat) (s : S34), k ≤ W.length ∧ i = .int .i64 k ∧ Aside0 (Inv w0 W g wb s wr) ∧ Aside0 (loopW s (W.drop k) = loopW (zero34 v) W.tail ∧ okS s = true)) (fun i _ => W.length - (RowKit.intOf i).toNat)
  case atStart => exact ⟨1, zero34 v, WL.out, rfl, I0, L0⟩
  case round =>
    clear I0 L0
    obtain ⟨k, s, hk, rfl, HI, HL⟩ := hrel
    by_cases hlt : k < W.length
    · obtain ⟨x, hx⟩ : ∃ x, W[k] = x := ⟨_, rfl⟩
      have q : wr.cell? ⟨wb, k, none⟩ = some (.string x) := by rw [HI.out.wd.cell k hlt, hx]
      have hd : W.drop k = x :: W.drop (k + 1) := by rw [List.drop_eq_getElem_cons hlt, hx]
      have HD := Aside0.mk hd
      have WX := Aside0.mk hx
      clear hx hd
      have i0 : (0 : Int) ≤ (k : Int) := by omega
      have i1 : (k : Int) < (W.length : Int) := by omega
      by_cases hkeys : x = (⟨#[107, 101, 121, 115]⟩ : ByteArray)
      · subst hkeys
        by_cases hend : k + 1 = W.length
        · have e0 : ((k : Int) + 1 == (W.length : Int)) = true := by rw [beq_iff_eq]; omega
          have e1 : (k + 1 == W.length) = true := by rw [beq_iff_eq]; omega
          have e2 : decide (k + 1 = W.length) = true := decide_eq_true hend
          have e3 : decide ((k : Int) + 1 = (W.length : Int)) = true := decide_eq_true (by omega)
          have hloop : loopW (zero34 v) W.tail = (s, false) := by rw [← HL.out.1, HD.out, List.drop_of_length_le (by omega), loopW_keys_end]
          have hRR : R = (s, false) := by rw [HRR.out, hloop]; rfl
          subst hRR
          clear HRR hloop HD HL
          have c0 : wr.cell? ⟨g, 0, none⟩ = some (.int .i64 s.f0) := (blk_cell HI.out.bx 0).trans rfl
          have c1 : wr.cell? ⟨g, 1, none⟩ = some (.int .u16 s.f1) := (blk_cell HI.out.bx 1).trans rfl
          have c2 : wr.cell? ⟨g, 2, none⟩ = some (.bool s.f2) := (blk_cell HI.out.bx 2).trans rfl
          have c3 : wr.cell? ⟨g, 3, none⟩ = some (.bool s.f3) := (blk_cell HI.out.bx 3).trans rfl
          have c4 : wr.cell? ⟨g, 4, none⟩ = some (.bool s.f4) := (blk_cell HI.out.bx 4).trans rfl
          have c5 : wr.cell? ⟨g, 5, none⟩ = some (.bool s.f5) := (blk_cell HI.out.bx 5).trans rfl
          have c6 : wr.cell? ⟨g, 6, none⟩ = some (.bool s.f6) := (blk_cell HI.out.bx 6).trans rfl
          have c7 : wr.cell? ⟨g, 7, none⟩ = some (.bool s.f7) := (blk_cell HI.out.bx 7).trans rfl
          have c8 : wr.cell? ⟨g, 8, none⟩ = some (.bool s.f8) := (blk_cell HI.out.bx 8).trans rfl
          have c9 : wr.cell? ⟨g, 9, none⟩ = some (.int .u8 s.f9) := (blk_cell HI.out.bx 9).trans rfl
          have z0 : wr.cell? ⟨w0.heap.size, 0, none⟩ = some (.int .i64 0) := (blk_cell HI.out.zb 0).trans rfl
          have y0 := blk_frozen HI.out.zb 0
          have z1 : wr.cell? ⟨w0.heap.size, 1, none⟩ = some (.int .u16 0) := (blk_cell HI.out.zb 1).trans rfl
          have y1 := blk_frozen HI.out.zb 1
          have z2 : wr.cell? ⟨w0.heap.size, 2, none⟩ = some (.bool false) := (blk_cell HI.out.zb 2).trans rfl
          have y2 := blk_frozen HI.out.zb 2
          have z3 : wr.cell? ⟨w0.heap.size, 3, none⟩ = some (.bool false) := (blk_cell HI.out.zb 3).trans rfl
          have y3 := blk_frozen HI.out.zb 3
          have z4 : wr.cell? ⟨w0.heap.size, 4, none⟩ = some (.bool false) := (blk_cell HI.out.zb 4).trans rfl
          have y4 := blk_frozen HI.out.zb 4
          have z5 : wr.cell? ⟨w0.heap.size, 5, none⟩ = some (.bool false) := (blk_cell HI.out.zb 5).trans rfl
          have y5 := blk_frozen HI.out.zb 5
          have z6 : wr.cell? ⟨w0.heap.size, 6, none⟩ = some (.bool false) := (blk_cell HI.out.zb 6).trans rfl
          have y6 := blk_frozen HI.out.zb 6
          have z7 : wr.cell? ⟨w0.heap.size, 7, none⟩ = some (.bool false) := (blk_cell HI.out.zb 7).trans rfl
          have y7 := blk_frozen HI.out.zb 7
          have z8 : wr.cell? ⟨w0.heap.size, 8, none⟩ = some (.bool false) := (blk_cell HI.out.zb 8).trans rfl
          have y8 := blk_frozen HI.out.zb 8
          have z9 : wr.cell? ⟨w0.heap.size, 9, none⟩ = some (.int .u8 0) := (blk_cell HI.out.zb 9).trans rfl
          have y9 := blk_frozen HI.out.zb 9
          have P3 : Aside0 (Bx s w0.heap.size (put34 wr w0.heap.size s)) := ⟨put34_bx HI.out.zb _⟩
          have B3 : Aside0 (Below w0.heap.size w0 (put34 wr w0.heap.size s)) := ⟨put34_below _ HI.out.bel (Nat.le_refl _) _⟩
          unfold put34 at P3 B3
          clear HI
          go_wp2
          generalize ((((((((((wr.setCell ⟨w0.heap.size, 0, none⟩ (.int .i64 s.f0)).setCell ⟨w0.heap.size, 1, none⟩ (.int .u16 s.f1)).setCell ⟨w0.heap.size, 2, none⟩ (.bool s.f2)).setCell ⟨w0.heap.size, 3, none⟩ (.bool s.f3)).setCell ⟨w0.heap.size, 4, none⟩ (.bool s.f4)).setCell ⟨w0.heap.size, 5, none⟩ (.bool s.f5)).setCell ⟨w0.heap.size, 6, none⟩ (.bool s.f6)).setCell ⟨w0.heap.size, 7, none⟩ (.bool s.f7)).setCell ⟨w0.heap.size, 8, none⟩ (.bool s.f8)).setCell ⟨w0.heap.size, 9, none⟩ (.int .u8 s.f9)) = w4 at P3 B3 ⊢
          have d0 : w4.cell? ⟨w0.heap.size, 0, none⟩ = some (.int .i64 s.f0) := (blk_cell P3.out 0).trans rfl
          have d1 : w4.cell? ⟨w0.heap.size, 1, none⟩ = some (.int .u16 s.f1) := (blk_cell P3.out 1).trans rfl
          have d2 : w4.cell? ⟨w0.heap.size, 2, none⟩ = some (.bool s.f2) := (blk_cell P3.out 2).trans rfl
          have d3 : w4.cell? ⟨w0.heap.size, 3, none⟩ = some (.bool s.f3) := (blk_cell P3.out 3).trans rfl
          have d4 : w4.cell? ⟨w0.heap.size, 4, none⟩ = some (.bool s.f4) := (blk_cell P3.out 4).trans rfl
          have d5 : w4.cell? ⟨w0.heap.size, 5, none⟩ = some (.bool s.f5) := (blk_cell P3.out 5).trans rfl
          have d6 : w4.cell? ⟨w0.heap.size, 6, none⟩ = some (.bool s.f6) := (blk_cell P3.out 6).trans rfl
          have d7 : w4.cell? ⟨w0.heap.size, 7, none⟩ = some (.bool s.f7) := (blk_cell P3.out 7).trans rfl
          have d8 : w4.cell? ⟨w0.heap.size, 8, none⟩ = some (.bool s.f8) := (blk_cell P3.out 8).trans rfl
          have d9 : w4.cell? ⟨w0.heap.size, 9, none⟩ = some (.int .u8 s.f9) := (blk_cell P3.out 9).trans rfl
          refine bodyPost_ret (v := .tuple #[.agg #[.int .i64 s.f0, .int .u16 s.f1, .bool s.f2, .bool s.f3, .bool s.f4, .bool s.f5, .bool s.f6, .bool s.f7, .bool s.f8, .int .u8 s.f9], .bool false]) (by simp [results, Tryd.results43, go_sem, d0, d1, d2, d3, d4, d5, d6, d7, d8, d9]) rfl ⟨rfl, B3.out⟩
        · have hend' : ¬ k + 1 = W.length := hend
          have e0 : ((k : Int) + 1 == (W.length : Int)) = false := by rw [beq_eq_false_iff_ne]; omega
          have e1 : (k + 1 == W.length) = false := by rw [beq_eq_false_iff_ne]; omega
          have hk1 : k + 1 < W.length := by omega
          obtain ⟨y, hy⟩ : ∃ y, W[k + 1] = y := ⟨_, rfl⟩
          have q2 : wr.cell? ⟨wb, k + 1, none⟩ = some (.string y) := by rw [HI.out.wd.cell (k + 1) hk1, hy]
          have hd2 : W.drop (k + 1) = y :: W.drop (k + 2) := by rw [List.drop_eq_getElem_cons hk1, hy]
          have HD2 := Aside0.mk hd2
          clear hd2 hy
          go_wp2_with fail
          (with_reducible refine (number_calls y _).mono ?_)
          rintro e w4 ⟨rfl, hb⟩
          have I4 := Aside0.mk (HI.out.below hb)
          clear hb HI q q2
          have q : w4.cell? ⟨wb, k, none⟩ = some (.string ⟨#[107, 101, 121, 115]⟩) := by rw [I4.out.wd.cell k hlt, WX.out]
          have nb := numR_bd y
          have HN : Aside0 (loopW { s with f1 := (numR y).1 % 65536 } (W.drop (k + 2)) = loopW (zero34 v) W.tail ∧ okS { s with f1 := (numR y).1 % 65536 } = true) := ⟨by rw [← HL.out.1, HD.out, HD2.out, loopW_keys], by have h := HL.out.2; simp only [okS, Bool.and_eq_true, decide_eq_true_eq] at h ⊢; omega⟩
          obtain ⟨nv1, hnv1⟩ : ∃ n, (numR y).1 = n := ⟨_, rfl⟩
          rw [hnv1] at nb HN
          obtain ⟨nv3, hnv3⟩ : ∃ n, (numR y).2 = n := ⟨_, rfl⟩
          simp only [hnv1, hnv3]
          clear hnv1 hnv3
          have c1 : w4.cell? ⟨g, 1, none⟩ = some (.int .u16 s.f1) := (blk_cell I4.out.bx 1).trans rfl
          have y1 := blk_frozen I4.out.bx 1
          have IN : Aside0 (Inv w0 W g wb { s with f1 := nv1 % 65536 } (w4.setCell ⟨g, 1, none⟩ (.int .u16 (nv1 % 65536)))) := ⟨I4.out.put 1 (.int .u16 (nv1 % 65536)) rfl⟩
          clear I4 HL HD HD2
          go_wp2
          go_roundw
          case rel => exact ⟨k + 2, { s with f1 := nv1 % 65536 }, by omega, by go_num, IN, HN⟩
          case measure => simp [RowKit.intOf]; omega
      · by_cases hbus : x = (⟨#[98, 117, 115]⟩ : ByteArray)
        · subst hbus
          have x0_ : ((⟨#[98, 117, 115]⟩ : ByteArray) == (⟨#[107, 101, 121, 115]⟩ : ByteArray)) = false := by decide
          have x1_ : ((⟨#[98, 117, 115]⟩ : ByteArray) == (⟨#[98, 117, 115]⟩ : ByteArray)) = true := by decide
          clear hkeys
          by_cases hend : k + 1 = W.length
          · have e0 : ((k : Int) + 1 == (W.length : Int)) = true := by rw [beq_iff_eq]; omega
            have e1 : (k + 1 == W.length) = true := by rw [beq_iff_eq]; omega
            have e2 : decide (k + 1 = W.length) = true := decide_eq_true hend
            have e3 : decide ((k : Int) + 1 = (W.length : Int)) = true := decide_eq_true (by omega)
            have hloop : loopW (zero34 v) W.tail = (s, false) := by rw [← HL.out.1, HD.out, List.drop_of_length_le (by omega), loopW_bus_end]
            have hRR : R = (s, false) := by rw [HRR.out, hloop]; rfl
            subst hRR
            clear HRR hloop HD HL
            have c0 : wr.cell? ⟨g, 0, none⟩ = some (.int .i64 s.f0) := (blk_cell HI.out.bx 0).trans rfl
            have c1 : wr.cell? ⟨g, 1, none⟩ = some (.int .u16 s.f1) := (blk_cell HI.out.bx 1).trans rfl
            have c2 : wr.cell? ⟨g, 2, none⟩ = some (.bool s.f2) := (blk_cell HI.out.bx 2).trans rfl
            have c3 : wr.cell? ⟨g, 3, none⟩ = some (.bool s.f3) := (blk_cell HI.out.bx 3).trans rfl
            have c4 : wr.cell? ⟨g, 4, none⟩ = some (.bool s.f4) := (blk_cell HI.out.bx 4).trans rfl
            have c5 : wr.cell? ⟨g, 5, none⟩ = some (.bool s.f5) := (blk_cell HI.out.bx 5).trans rfl
            have c6 : wr.cell? ⟨g, 6, none⟩ = some (.bool s.f6) := (blk_cell HI.out.bx 6).trans rfl
            have c7 : wr.cell? ⟨g, 7, none⟩ = some (.bool s.f7) := (blk_cell HI.out.bx 7).trans rfl
            have c8 : wr.cell? ⟨g, 8, none⟩ = some (.bool s.f8) := (blk_cell HI.out.bx 8).trans rfl
            have c9 : wr.cell? ⟨g, 9, none⟩ = some (.int .u8 s.f9) := (blk_cell HI.out.bx 9).trans rfl
            have z0 : wr.cell? ⟨w0.heap.size, 0, none⟩ = some (.int .i64 0) := (blk_cell HI.out.zb 0).trans rfl
            have y0 := blk_frozen HI.out.zb 0
            have z1 : wr.cell? ⟨w0.heap.size, 1, none⟩ = some (.int .u16 0) := (blk_cell HI.out.zb 1).trans rfl
            have y1 := blk_frozen HI.out.zb 1
            have z2 : wr.cell? ⟨w0.heap.size, 2, none⟩ = some (.bool false) := (blk_cell HI.out.zb 2).trans rfl
            have y2 := blk_frozen HI.out.zb 2
            have z3 : wr.cell? ⟨w0.heap.size, 3, none⟩ = some (.bool false) := (blk_cell HI.out.zb 3).trans rfl
            have y3 := blk_frozen HI.out.zb 3
            have z4 : wr.cell? ⟨w0.heap.size, 4, none⟩ = some (.bool false) := (blk_cell HI.out.zb 4).trans rfl
            have y4 := blk_frozen HI.out.zb 4
            have z5 : wr.cell? ⟨w0.heap.size, 5, none⟩ = some (.bool false) := (blk_cell HI.out.zb 5).trans rfl
            have y5 := blk_frozen HI.out.zb 5
            have z6 : wr.cell? ⟨w0.heap.size, 6, none⟩ = some (.bool false) := (blk_cell HI.out.zb 6).trans rfl
            have y6 := blk_frozen HI.out.zb 6
            have z7 : wr.cell? ⟨w0.heap.size, 7, none⟩ = some (.bool false) := (blk_cell HI.out.zb 7).trans rfl
            have y7 := blk_frozen HI.out.zb 7
            have z8 : wr.cell? ⟨w0.heap.size, 8, none⟩ = some (.bool false) := (blk_cell HI.out.zb 8).trans rfl
            have y8 := blk_frozen HI.out.zb 8
            have z9 : wr.cell? ⟨w0.heap.size, 9, none⟩ = some (.int .u8 0) := (blk_cell HI.out.zb 9).trans rfl
            have y9 := blk_frozen HI.out.zb 9
            have P3 : Aside0 (Bx s w0.heap.size (put34 wr w0.heap.size s)) := ⟨put34_bx HI.out.zb _⟩
            have B3 : Aside0 (Below w0.heap.size w0 (put34 wr w0.heap.size s)) := ⟨put34_below _ HI.out.bel (Nat.le_refl _) _⟩
            unfold put34 at P3 B3
            clear HI
            go_wp2
            generalize ((((((((((wr.setCell ⟨w0.heap.size, 0, none⟩ (.int .i64 s.f0)).setCell ⟨w0.heap.size, 1, none⟩ (.int .u16 s.f1)).setCell ⟨w0.heap.size, 2, none⟩ (.bool s.f2)).setCell ⟨w0.heap.size, 3, none⟩ (.bool s.f3)).setCell ⟨w0.heap.size, 4, none⟩ (.bool s.f4)).setCell ⟨w0.heap.size, 5, none⟩ (.bool s.f5)).setCell ⟨w0.heap.size, 6, none⟩ (.bool s.f6)).setCell ⟨w0.heap.size, 7, none⟩ (.bool s.f7)).setCell ⟨w0.heap.size, 8, none⟩ (.bool s.f8)).setCell ⟨w0.heap.size, 9, none⟩ (.int .u8 s.f9)) = w4 at P3 B3 ⊢
            have d0 : w4.cell? ⟨w0.heap.size, 0, none⟩ = some (.int .i64 s.f0) := (blk_cell P3.out 0).trans rfl
            have d1 : w4.cell? ⟨w0.heap.size, 1, none⟩ = some (.int .u16 s.f1) := (blk_cell P3.out 1).trans rfl
            have d2 : w4.cell? ⟨w0.heap.size, 2, none⟩ = some (.bool s.f2) := (blk_cell P3.out 2).trans rfl
            have d3 : w4.cell? ⟨w0.heap.size, 3, none⟩ = some (.bool s.f3) := (blk_cell P3.out 3).trans rfl
            have d4 : w4.cell? ⟨w0.heap.size, 4, none⟩ = some (.bool s.f4) := (blk_cell P3.out 4).trans rfl
            have d5 : w4.cell? ⟨w0.heap.size, 5, none⟩ = some (.bool s.f5) := (blk_cell P3.out 5).trans rfl
            have d6 : w4.cell? ⟨w0.heap.size, 6, none⟩ = some (.bool s.f6) := (blk_cell P3.out 6).trans rfl
            have d7 : w4.cell? ⟨w0.heap.size, 7, none⟩ = some (.bool s.f7) := (blk_cell P3.out 7).trans rfl
            have d8 : w4.cell? ⟨w0.heap.size, 8, none⟩ = some (.bool s.f8) := (blk_cell P3.out 8).trans rfl
            have d9 : w4.cell? ⟨w0.heap.size, 9, none⟩ = some (.int .u8 s.f9) := (blk_cell P3.out 9).trans rfl
            refine bodyPost_ret (v := .tuple #[.agg #[.int .i64 s.f0, .int .u16 s.f1, .bool s.f2, .bool s.f3, .bool s.f4, .bool s.f5, .bool s.f6, .bool s.f7, .bool s.f8, .int .u8 s.f9], .bool false]) (by simp [results, Tryd.results43, go_sem, d0, d1, d2, d3, d4, d5, d6, d7, d8, d9]) rfl ⟨rfl, B3.out⟩
          · have hend' : ¬ k + 1 = W.length := hend
            have e0 : ((k : Int) + 1 == (W.length : Int)) = false := by rw [beq_eq_false_iff_ne]; omega
            have e1 : (k + 1 == W.length) = false := by rw [beq_eq_false_iff_ne]; omega
            have hk1 : k + 1 < W.length := by omega
            obtain ⟨y, hy⟩ : ∃ y, W[k + 1] = y := ⟨_, rfl⟩
            have q2 : wr.cell? ⟨wb, k + 1, none⟩ = some (.string y) := by rw [HI.out.wd.cell (k + 1) hk1, hy]
            have hd2 : W.drop (k + 1) = y :: W.drop (k + 2) := by rw [List.drop_eq_getElem_cons hk1, hy]
            have HD2 := Aside0.mk hd2
            clear hd2 hy
            go_wp2_with fail
            (with_reducible refine (number_calls y _).mono ?_)
            rintro e w4 ⟨rfl, hb⟩
            have I4 := Aside0.mk (HI.out.below hb)
            clear hb HI q q2
            have q : w4.cell? ⟨wb, k, none⟩ = some (.string ⟨#[98, 117, 115]⟩) := by rw [I4.out.wd.cell k hlt, WX.out]
            have nb := numR_bd y
            have HN : Aside0 (loopW { s with f9 := (numR y).1 % 256 } (W.drop (k + 2)) = loopW (zero34 v) W.tail ∧ okS { s with f9 := (numR y).1 % 256 } = true) := ⟨by rw [← HL.out.1, HD.out, HD2.out, loopW_bus], by have h := HL.out.2; simp only [okS, Bool.and_eq_true, decide_eq_true_eq] at h ⊢; omega⟩
            obtain ⟨nv1, hnv1⟩ : ∃ n, (numR y).1 = n := ⟨_, rfl⟩
            rw [hnv1] at nb HN
            obtain ⟨nv3, hnv3⟩ : ∃ n, (numR y).2 = n := ⟨_, rfl⟩
            simp only [hnv1, hnv3]
            clear hnv1 hnv3
            have c1 : w4.cell? ⟨g, 9, none⟩ = some (.int .u8 s.f9) := (blk_cell I4.out.bx 9).trans rfl
            have y1 := blk_frozen I4.out.bx 9
            have IN : Aside0 (Inv w0 W g wb { s with f9 := nv1 % 256 } (w4.setCell ⟨g, 9, none⟩ (.int .u8 (nv1 % 256)))) := ⟨I4.out.put 9 (.int .u8 (nv1 % 256)) rfl⟩
            clear I4 HL HD HD2
            go_wp2
            go_roundw
            case rel => exact ⟨k + 2, { s with f9 := nv1 % 256 }, by omega, by go_num, IN, HN⟩
            case measure => simp [RowKit.intOf]; omega
        · have x0_ : (x.toList == [107, 101, 121, 115]) = false := str_ne x _ hkeys
          have x1_ : (x.toList == [98, 117, 115]) = false := str_ne x _ hbus
          have HK := Aside0.mk hkeys
          have HB := Aside0.mk hbus
          clear hkeys hbus
          go_wp2_with fail
          (with_reducible refine (flags_calls g _).mono ?_)
          rintro e w4 ⟨rfl, n2, rfl⟩
          have F4 : Aside0 (Fx g wr.heap.size ((wr.drewN n2).alloc (.cells (flagCells g) 86))) := ⟨heap_alloc_new (wr.drewN n2) _⟩
          have I4 : Aside0 (Inv w0 W g wb s ((wr.drewN n2).alloc (.cells (flagCells g) 86))) := ⟨HI.out.below (below_alloc (pw_below_drewN (Below.refl _ _) n2) _)⟩
          have HS : Aside0 (loopW (setF s x) (W.drop (k + 1)) = loopW (zero34 v) W.tail ∧ okS (setF s x) = true) := ⟨by rw [← HL.out.1, HD.out, loopW_other _ _ _ HK.out HB.out], okS_setF _ _ HL.out.2⟩
          clear HI HL HD q
          generalize (wr.drewN n2).alloc (.cells (flagCells g) 86) = w5 at F4 I4 ⊢
          generalize wr.heap.size = fb at F4 ⊢
          go_wp2
          go_loopw [47] (fun i wr => ∃ j : Nat, j ≤ 7 ∧ i = .int .i64 j ∧ Aside0 (Inv w0 W g wb (sfs j s x) wr) ∧ Aside0 (Fx g fb wr)) (fun i _ => 7 - (RowKit.intOf i).toNat)
          case atStart => exact ⟨0, by omega, rfl, I4, F4⟩
          case round =>
            clear I4 F4
            obtain ⟨j, hj, rfl, IJ, FJ⟩ := hrel
            have q : _ := IJ.out.wd.cell k hlt
            rw [WX.out] at q
            rcases (show j = 0 ∨ j = 1 ∨ j = 2 ∨ j = 3 ∨ j = 4 ∨ j = 5 ∨ j = 6 ∨ j = 7 by omega) with rfl | rfl | rfl | rfl | rfl | rfl | rfl | rfl
            · have q0 := (blk_cell FJ.out 0).trans (show _ = some (.string ⟨#[116, 97, 112, 101]⟩) from rfl)
              have q1 := (blk_cell FJ.out 1).trans (show _ = some (.pointer (some ⟨g, 2, none⟩)) from rfl)
              obtain ⟨t, ht⟩ : ∃ t, sfs 0 s x = t := ⟨_, rfl⟩
              have SN : Aside0 (sfs (0 + 1) s x = sf 0 t x) := ⟨by rw [← ht]; rfl⟩
              rw [ht] at IJ
              clear ht
              have q2 : wr.cell? ⟨g, 2, none⟩ = some (.bool t.f2) := (blk_cell IJ.out.bx 2).trans rfl
              have y2 := blk_frozen IJ.out.bx 2
              have n0 : wb < wr.heap.size := World.block_lt_of_cell? _ _ q
              have n4 : g < wr.heap.size := World.block_lt_of_cell? _ _ q2
              have n6 : g ≠ wr.heap.size := by omega
              have n7 : wr.heap.size ≠ g := by omega
              have qn : ∀ n, ((wr.alloc (.cells #[.string ⟨#[116, 97, 112, 101]⟩, .pointer (some ⟨g, 2, none⟩)] 86)).drewN n).cell? ⟨wb, k, none⟩ = some (.string x) := fun n => (World.cell?_alloc_some _ _ _ (by rw [q]; rfl)).trans q
              have I6 : Aside0 (∀ o n, Inv w0 W g wb t ((wr.alloc o).drewN n)) := ⟨fun o n => IJ.out.below (pw_below_drewN (below_alloc (Below.refl _ _) o) n)⟩
              have F6 : Aside0 (∀ o n, Fx g fb ((wr.alloc o).drewN n)) := ⟨fun o n => FJ.out.below (pw_below_drewN (below_alloc (Below.refl _ _) o) n)⟩
              clear IJ FJ
              by_cases hw : x = (⟨#[116, 97, 112, 101]⟩ : ByteArray)
              · have SN2 : Aside0 (sfs (0 + 1) s x = { t with f2 := true }) := ⟨by rw [SN.out]; unfold sf; simp only [hw, if_true]⟩
                subst hw
                clear WX HK HB HS SN
                go_wp2
                go_quiet (fail)
                have c2 := (blk_cell (I6.out (.cells #[.string ⟨#[116, 97, 112, 101]⟩, .pointer (some ⟨g, 2, none⟩)] 86) nq).bx 2).trans (show _ = some (.bool t.f2) from rfl)
                go_wp2
                go_roundw
                case rel => exact ⟨0 + 1, by omega, rfl, ⟨by rw [SN2.out]; exact (I6.out _ _).put 2 (.bool true) rfl⟩, ⟨(F6.out _ _).put (I6.out _ _).bx _ _⟩⟩
                case measure => simp [RowKit.intOf]
              · have w0_ := str_ne' x _ hw
                have SN2 : Aside0 (sfs (0 + 1) s x = t) := ⟨by rw [SN.out]; unfold sf; simp only [hw, if_false]⟩
                clear hw SN
                go_wp2
                go_quiet (fail)
                go_wp2
                go_roundw
                case rel => exact ⟨0 + 1, by omega, rfl, ⟨by rw [SN2.out]; exact I6.out _ _⟩, ⟨F6.out _ _⟩⟩
                case measure => simp [RowKit.intOf]
            · have q0 := (blk_cell FJ.out 2).trans (show _ = some (.string ⟨#[102, 108, 97, 103]⟩) from rfl)
              have q1 := (blk_cell FJ.out 3).trans (show _ = some (.pointer (some ⟨g, 3, none⟩)) from rfl)
              obtain ⟨t, ht⟩ : ∃ t, sfs 1 s x = t := ⟨_, rfl⟩
              have SN : Aside0 (sfs (1 + 1) s x = sf 1 t x) := ⟨by rw [← ht]; rfl⟩
              rw [ht] at IJ
              clear ht
              have q2 : wr.cell? ⟨g, 3, none⟩ = some (.bool t.f3) := (blk_cell IJ.out.bx 3).trans rfl
              have y2 := blk_frozen IJ.out.bx 3
              have n0 : wb < wr.heap.size := World.block_lt_of_cell? _ _ q
              have n4 : g < wr.heap.size := World.block_lt_of_cell? _ _ q2
              have n6 : g ≠ wr.heap.size := by omega
              have n7 : wr.heap.size ≠ g := by omega
              have qn : ∀ n, ((wr.alloc (.cells #[.string ⟨#[102, 108, 97, 103]⟩, .pointer (some ⟨g, 3, none⟩)] 86)).drewN n).cell? ⟨wb, k, none⟩ = some (.string x) := fun n => (World.cell?_alloc_some _ _ _ (by rw [q]; rfl)).trans q
              have I6 : Aside0 (∀ o n, Inv w0 W g wb t ((wr.alloc o).drewN n)) := ⟨fun o n => IJ.out.below (pw_below_drewN (below_alloc (Below.refl _ _) o) n)⟩
              have F6 : Aside0 (∀ o n, Fx g fb ((wr.alloc o).drewN n)) := ⟨fun o n => FJ.out.below (pw_below_drewN (below_alloc (Below.refl _ _) o) n)⟩
              clear IJ FJ
              by_cases hw : x = (⟨#[102, 108, 97, 103]⟩ : ByteArray)
              · have SN2 : Aside0 (sfs (1 + 1) s x = { t with f3 := true }) := ⟨by rw [SN.out]; unfold sf; simp only [hw, if_true]⟩
                subst hw
                clear WX HK HB HS SN
                go_wp2
                go_quiet (fail)
                have c2 := (blk_cell (I6.out (.cells #[.string ⟨#[102, 108, 97, 103]⟩, .pointer (some ⟨g, 3, none⟩)] 86) nq).bx 3).trans (show _ = some (.bool t.f3) from rfl)
                go_wp2
                go_roundw
                case rel => exact ⟨1 + 1, by omega, rfl, ⟨by rw [SN2.out]; exact (I6.out _ _).put 3 (.bool true) rfl⟩, ⟨(F6.out _ _).put (I6.out _ _).bx _ _⟩⟩
                case measure => simp [RowKit.intOf]
              · have w0_ := str_ne' x _ hw
                have SN2 : Aside0 (sfs (1 + 1) s x = t) := ⟨by rw [SN.out]; unfold sf; simp only [hw, if_false]⟩
                clear hw SN
                go_wp2
                go_quiet (fail)
                go_wp2
                go_roundw
                case rel => exact ⟨1 + 1, by omega, rfl, ⟨by rw [SN2.out]; exact I6.out _ _⟩, ⟨F6.out _ _⟩⟩
                case measure => simp [RowKit.intOf]
            · have q0 := (blk_cell FJ.out 4).trans (show _ = some (.string ⟨#[105, 110]⟩) from rfl)
              have q1 := (blk_cell FJ.out 5).trans (show _ = some (.pointer (some ⟨g, 4, none⟩)) from rfl)
              obtain ⟨t, ht⟩ : ∃ t, sfs 2 s x = t := ⟨_, rfl⟩
              have SN : Aside0 (sfs (2 + 1) s x = sf 2 t x) := ⟨by rw [← ht]; rfl⟩
              rw [ht] at IJ
              clear ht
              have q2 : wr.cell? ⟨g, 4, none⟩ = some (.bool t.f4) := (blk_cell IJ.out.bx 4).trans rfl
              have y2 := blk_frozen IJ.out.bx 4
              have n0 : wb < wr.heap.size := World.block_lt_of_cell? _ _ q
              have n4 : g < wr.heap.size := World.block_lt_of_cell? _ _ q2
              have n6 : g ≠ wr.heap.size := by omega
              have n7 : wr.heap.size ≠ g := by omega
              have qn : ∀ n, ((wr.alloc (.cells #[.string ⟨#[105, 110]⟩, .pointer (some ⟨g, 4, none⟩)] 86)).drewN n).cell? ⟨wb, k, none⟩ = some (.string x) := fun n => (World.cell?_alloc_some _ _ _ (by rw [q]; rfl)).trans q
              have I6 : Aside0 (∀ o n, Inv w0 W g wb t ((wr.alloc o).drewN n)) := ⟨fun o n => IJ.out.below (pw_below_drewN (below_alloc (Below.refl _ _) o) n)⟩
              have F6 : Aside0 (∀ o n, Fx g fb ((wr.alloc o).drewN n)) := ⟨fun o n => FJ.out.below (pw_below_drewN (below_alloc (Below.refl _ _) o) n)⟩
              clear IJ FJ
              by_cases hw : x = (⟨#[105, 110]⟩ : ByteArray)
              · have SN2 : Aside0 (sfs (2 + 1) s x = { t with f4 := true }) := ⟨by rw [SN.out]; unfold sf; simp only [hw, if_true]⟩
                subst hw
                clear WX HK HB HS SN
                go_wp2
                go_quiet (fail)
                have c2 := (blk_cell (I6.out (.cells #[.string ⟨#[105, 110]⟩, .pointer (some ⟨g, 4, none⟩)] 86) nq).bx 4).trans (show _ = some (.bool t.f4) from rfl)
                go_wp2
                go_roundw
                case rel => exact ⟨2 + 1, by omega, rfl, ⟨by rw [SN2.out]; exact (I6.out _ _).put 4 (.bool true) rfl⟩, ⟨(F6.out _ _).put (I6.out _ _).bx _ _⟩⟩
                case measure => simp [RowKit.intOf]
              · have w0_ := str_ne' x _ hw
                have SN2 : Aside0 (sfs (2 + 1) s x = t) := ⟨by rw [SN.out]; unfold sf; simp only [hw, if_false]⟩
                clear hw SN
                go_wp2
                go_quiet (fail)
                go_wp2
                go_roundw
                case rel => exact ⟨2 + 1, by omega, rfl, ⟨by rw [SN2.out]; exact I6.out _ _⟩, ⟨F6.out _ _⟩⟩
                case measure => simp [RowKit.intOf]
            · have q0 := (blk_cell FJ.out 6).trans (show _ = some (.string ⟨#[111, 117, 116]⟩) from rfl)
              have q1 := (blk_cell FJ.out 7).trans (show _ = some (.pointer (some ⟨g, 5, none⟩)) from rfl)
              obtain ⟨t, ht⟩ : ∃ t, sfs 3 s x = t := ⟨_, rfl⟩
              have SN : Aside0 (sfs (3 + 1) s x = sf 3 t x) := ⟨by rw [← ht]; rfl⟩
              rw [ht] at IJ
              clear ht
              have q2 : wr.cell? ⟨g, 5, none⟩ = some (.bool t.f5) := (blk_cell IJ.out.bx 5).trans rfl
              have y2 := blk_frozen IJ.out.bx 5
              have n0 : wb < wr.heap.size := World.block_lt_of_cell? _ _ q
              have n4 : g < wr.heap.size := World.block_lt_of_cell? _ _ q2
              have n6 : g ≠ wr.heap.size := by omega
              have n7 : wr.heap.size ≠ g := by omega
              have qn : ∀ n, ((wr.alloc (.cells #[.string ⟨#[111, 117, 116]⟩, .pointer (some ⟨g, 5, none⟩)] 86)).drewN n).cell? ⟨wb, k, none⟩ = some (.string x) := fun n => (World.cell?_alloc_some _ _ _ (by rw [q]; rfl)).trans q
              have I6 : Aside0 (∀ o n, Inv w0 W g wb t ((wr.alloc o).drewN n)) := ⟨fun o n => IJ.out.below (pw_below_drewN (below_alloc (Below.refl _ _) o) n)⟩
              have F6 : Aside0 (∀ o n, Fx g fb ((wr.alloc o).drewN n)) := ⟨fun o n => FJ.out.below (pw_below_drewN (below_alloc (Below.refl _ _) o) n)⟩
              clear IJ FJ
              by_cases hw : x = (⟨#[111, 117, 116]⟩ : ByteArray)
              · have SN2 : Aside0 (sfs (3 + 1) s x = { t with f5 := true }) := ⟨by rw [SN.out]; unfold sf; simp only [hw, if_true]⟩
                subst hw
                clear WX HK HB HS SN
                go_wp2
                go_quiet (fail)
                have c2 := (blk_cell (I6.out (.cells #[.string ⟨#[111, 117, 116]⟩, .pointer (some ⟨g, 5, none⟩)] 86) nq).bx 5).trans (show _ = some (.bool t.f5) from rfl)
                go_wp2
                go_roundw
                case rel => exact ⟨3 + 1, by omega, rfl, ⟨by rw [SN2.out]; exact (I6.out _ _).put 5 (.bool true) rfl⟩, ⟨(F6.out _ _).put (I6.out _ _).bx _ _⟩⟩
                case measure => simp [RowKit.intOf]
              · have w0_ := str_ne' x _ hw
                have SN2 : Aside0 (sfs (3 + 1) s x = t) := ⟨by rw [SN.out]; unfold sf; simp only [hw, if_false]⟩
                clear hw SN
                go_wp2
                go_quiet (fail)
                go_wp2
                go_roundw
                case rel => exact ⟨3 + 1, by omega, rfl, ⟨by rw [SN2.out]; exact I6.out _ _⟩, ⟨F6.out _ _⟩⟩
                case measure => simp [RowKit.intOf]
            · have q0 := (blk_cell FJ.out 8).trans (show _ = some (.string ⟨#[105, 110, 116]⟩) from rfl)
              have q1 := (blk_cell FJ.out 9).trans (show _ = some (.pointer (some ⟨g, 6, none⟩)) from rfl)
              obtain ⟨t, ht⟩ : ∃ t, sfs 4 s x = t := ⟨_, rfl⟩
              have SN : Aside0 (sfs (4 + 1) s x = sf 4 t x) := ⟨by rw [← ht]; rfl⟩
              rw [ht] at IJ
              clear ht
              have q2 : wr.cell? ⟨g, 6, none⟩ = some (.bool t.f6) := (blk_cell IJ.out.bx 6).trans rfl
              have y2 := blk_frozen IJ.out.bx 6
              have n0 : wb < wr.heap.size := World.block_lt_of_cell? _ _ q
              have n4 : g < wr.heap.size := World.block_lt_of_cell? _ _ q2
              have n6 : g ≠ wr.heap.size := by omega
              have n7 : wr.heap.size ≠ g := by omega
              have qn : ∀ n, ((wr.alloc (.cells #[.string ⟨#[105, 110, 116]⟩, .pointer (some ⟨g, 6, none⟩)] 86)).drewN n).cell? ⟨wb, k, none⟩ = some (.string x) := fun n => (World.cell?_alloc_some _ _ _ (by rw [q]; rfl)).trans q
              have I6 : Aside0 (∀ o n, Inv w0 W g wb t ((wr.alloc o).drewN n)) := ⟨fun o n => IJ.out.below (pw_below_drewN (below_alloc (Below.refl _ _) o) n)⟩
              have F6 : Aside0 (∀ o n, Fx g fb ((wr.alloc o).drewN n)) := ⟨fun o n => FJ.out.below (pw_below_drewN (below_alloc (Below.refl _ _) o) n)⟩
              clear IJ FJ
              by_cases hw : x = (⟨#[105, 110, 116]⟩ : ByteArray)
              · have SN2 : Aside0 (sfs (4 + 1) s x = { t with f6 := true }) := ⟨by rw [SN.out]; unfold sf; simp only [hw, if_true]⟩
                subst hw
                clear WX HK HB HS SN
                go_wp2
                go_quiet (fail)
                have c2 := (blk_cell (I6.out (.cells #[.string ⟨#[105, 110, 116]⟩, .pointer (some ⟨g, 6, none⟩)] 86) nq).bx 6).trans (show _ = some (.bool t.f6) from rfl)
                go_wp2
                go_roundw
                case rel => exact ⟨4 + 1, by omega, rfl, ⟨by rw [SN2.out]; exact (I6.out _ _).put 6 (.bool true) rfl⟩, ⟨(F6.out _ _).put (I6.out _ _).bx _ _⟩⟩
                case measure => simp [RowKit.intOf]
              · have w0_ := str_ne' x _ hw
                have SN2 : Aside0 (sfs (4 + 1) s x = t) := ⟨by rw [SN.out]; unfold sf; simp only [hw, if_false]⟩
                clear hw SN
                go_wp2
                go_quiet (fail)
                go_wp2
                go_roundw
                case rel => exact ⟨4 + 1, by omega, rfl, ⟨by rw [SN2.out]; exact I6.out _ _⟩, ⟨F6.out _ _⟩⟩
                case measure => simp [RowKit.intOf]
            · have q0 := (blk_cell FJ.out 10).trans (show _ = some (.string ⟨#[99, 108, 101, 97, 114]⟩) from rfl)
              have q1 := (blk_cell FJ.out 11).trans (show _ = some (.pointer (some ⟨g, 7, none⟩)) from rfl)
              obtain ⟨t, ht⟩ : ∃ t, sfs 5 s x = t := ⟨_, rfl⟩
              have SN : Aside0 (sfs (5 + 1) s x = sf 5 t x) := ⟨by rw [← ht]; rfl⟩
              rw [ht] at IJ
              clear ht
              have q2 : wr.cell? ⟨g, 7, none⟩ = some (.bool t.f7) := (blk_cell IJ.out.bx 7).trans rfl
              have y2 := blk_frozen IJ.out.bx 7
              have n0 : wb < wr.heap.size := World.block_lt_of_cell? _ _ q
              have n4 : g < wr.heap.size := World.block_lt_of_cell? _ _ q2
              have n6 : g ≠ wr.heap.size := by omega
              have n7 : wr.heap.size ≠ g := by omega
              have qn : ∀ n, ((wr.alloc (.cells #[.string ⟨#[99, 108, 101, 97, 114]⟩, .pointer (some ⟨g, 7, none⟩)] 86)).drewN n).cell? ⟨wb, k, none⟩ = some (.string x) := fun n => (World.cell?_alloc_some _ _ _ (by rw [q]; rfl)).trans q
              have I6 : Aside0 (∀ o n, Inv w0 W g wb t ((wr.alloc o).drewN n)) := ⟨fun o n => IJ.out.below (pw_below_drewN (below_alloc (Below.refl _ _) o) n)⟩
              have F6 : Aside0 (∀ o n, Fx g fb ((wr.alloc o).drewN n)) := ⟨fun o n => FJ.out.below (pw_below_drewN (below_alloc (Below.refl _ _) o) n)⟩
              clear IJ FJ
              by_cases hw : x = (⟨#[99, 108, 101, 97, 114]⟩ : ByteArray)
              · have SN2 : Aside0 (sfs (5 + 1) s x = { t with f7 := true }) := ⟨by rw [SN.out]; unfold sf; simp only [hw, if_true]⟩
                subst hw
                clear WX HK HB HS SN
                go_wp2
                go_quiet (fail)
                have c2 := (blk_cell (I6.out (.cells #[.string ⟨#[99, 108, 101, 97, 114]⟩, .pointer (some ⟨g, 7, none⟩)] 86) nq).bx 7).trans (show _ = some (.bool t.f7) from rfl)
                go_wp2
                go_roundw
                case rel => exact ⟨5 + 1, by omega, rfl, ⟨by rw [SN2.out]; exact (I6.out _ _).put 7 (.bool true) rfl⟩, ⟨(F6.out _ _).put (I6.out _ _).bx _ _⟩⟩
                case measure => simp [RowKit.intOf]
              · have w0_ := str_ne' x _ hw
                have SN2 : Aside0 (sfs (5 + 1) s x = t) := ⟨by rw [SN.out]; unfold sf; simp only [hw, if_false]⟩
                clear hw SN
                go_wp2
                go_quiet (fail)
                go_wp2
                go_roundw
                case rel => exact ⟨5 + 1, by omega, rfl, ⟨by rw [SN2.out]; exact I6.out _ _⟩, ⟨F6.out _ _⟩⟩
                case measure => simp [RowKit.intOf]
            · have q0 := (blk_cell FJ.out 12).trans (show _ = some (.string ⟨#[119, 97, 105, 116]⟩) from rfl)
              have q1 := (blk_cell FJ.out 13).trans (show _ = some (.pointer (some ⟨g, 8, none⟩)) from rfl)
              obtain ⟨t, ht⟩ : ∃ t, sfs 6 s x = t := ⟨_, rfl⟩
              have SN : Aside0 (sfs (6 + 1) s x = sf 6 t x) := ⟨by rw [← ht]; rfl⟩
              rw [ht] at IJ
              clear ht
              have q2 : wr.cell? ⟨g, 8, none⟩ = some (.bool t.f8) := (blk_cell IJ.out.bx 8).trans rfl
              have y2 := blk_frozen IJ.out.bx 8
              have n0 : wb < wr.heap.size := World.block_lt_of_cell? _ _ q
              have n4 : g < wr.heap.size := World.block_lt_of_cell? _ _ q2
              have n6 : g ≠ wr.heap.size := by omega
              have n7 : wr.heap.size ≠ g := by omega
              have qn : ∀ n, ((wr.alloc (.cells #[.string ⟨#[119, 97, 105, 116]⟩, .pointer (some ⟨g, 8, none⟩)] 86)).drewN n).cell? ⟨wb, k, none⟩ = some (.string x) := fun n => (World.cell?_alloc_some _ _ _ (by rw [q]; rfl)).trans q
              have I6 : Aside0 (∀ o n, Inv w0 W g wb t ((wr.alloc o).drewN n)) := ⟨fun o n => IJ.out.below (pw_below_drewN (below_alloc (Below.refl _ _) o) n)⟩
              have F6 : Aside0 (∀ o n, Fx g fb ((wr.alloc o).drewN n)) := ⟨fun o n => FJ.out.below (pw_below_drewN (below_alloc (Below.refl _ _) o) n)⟩
              clear IJ FJ
              by_cases hw : x = (⟨#[119, 97, 105, 116]⟩ : ByteArray)
              · have SN2 : Aside0 (sfs (6 + 1) s x = { t with f8 := true }) := ⟨by rw [SN.out]; unfold sf; simp only [hw, if_true]⟩
                subst hw
                clear WX HK HB HS SN
                go_wp2
                go_quiet (fail)
                have c2 := (blk_cell (I6.out (.cells #[.string ⟨#[119, 97, 105, 116]⟩, .pointer (some ⟨g, 8, none⟩)] 86) nq).bx 8).trans (show _ = some (.bool t.f8) from rfl)
                go_wp2
                go_roundw
                case rel => exact ⟨6 + 1, by omega, rfl, ⟨by rw [SN2.out]; exact (I6.out _ _).put 8 (.bool true) rfl⟩, ⟨(F6.out _ _).put (I6.out _ _).bx _ _⟩⟩
                case measure => simp [RowKit.intOf]
              · have w0_ := str_ne' x _ hw
                have SN2 : Aside0 (sfs (6 + 1) s x = t) := ⟨by rw [SN.out]; unfold sf; simp only [hw, if_false]⟩
                clear hw SN
                go_wp2
                go_quiet (fail)
                go_wp2
                go_roundw
                case rel => exact ⟨6 + 1, by omega, rfl, ⟨by rw [SN2.out]; exact I6.out _ _⟩, ⟨F6.out _ _⟩⟩
                case measure => simp [RowKit.intOf]
            · go_wp2
              go_roundw
              case rel => exact ⟨k + 1, setF s x, by omega, by go_num, IJ, HS⟩
              case measure => simp [RowKit.intOf]; omega
    · obtain rfl : k = W.length := by omega
      have hloop : loopW (zero34 v) W.tail = (s, true) := by rw [← HL.out.1, List.drop_of_length_le (Nat.le_refl _)]; rfl
      have hRR : R = (s, lineB s == l) := by rw [HRR.out, hloop]; rfl
      subst hRR
      have hk2 := HL.out.2
      unfold okS at hk2
      simp only [Bool.and_eq_true, decide_eq_true_eq] at hk2
      have HK2 := Aside0.mk hk2
      clear HRR hloop HL hk2
      have c0 : wr.cell? ⟨g, 0, none⟩ = some (.int .i64 s.f0) := (blk_cell HI.out.bx 0).trans rfl
      have c1 : wr.cell? ⟨g, 1, none⟩ = some (.int .u16 s.f1) := (blk_cell HI.out.bx 1).trans rfl
      have c2 : wr.cell? ⟨g, 2, none⟩ = some (.bool s.f2) := (blk_cell HI.out.bx 2).trans rfl
      have c3 : wr.cell? ⟨g, 3, none⟩ = some (.bool s.f3) := (blk_cell HI.out.bx 3).trans rfl
      have c4 : wr.cell? ⟨g, 4, none⟩ = some (.bool s.f4) := (blk_cell HI.out.bx 4).trans rfl
      have c5 : wr.cell? ⟨g, 5, none⟩ = some (.bool s.f5) := (blk_cell HI.out.bx 5).trans rfl
      have c6 : wr.cell? ⟨g, 6, none⟩ = some (.bool s.f6) := (blk_cell HI.out.bx 6).trans rfl
      have c7 : wr.cell? ⟨g, 7, none⟩ = some (.bool s.f7) := (blk_cell HI.out.bx 7).trans rfl
      have c8 : wr.cell? ⟨g, 8, none⟩ = some (.bool s.f8) := (blk_cell HI.out.bx 8).trans rfl
      have c9 : wr.cell? ⟨g, 9, none⟩ = some (.int .u8 s.f9) := (blk_cell HI.out.bx 9).trans rfl
      have z0 : wr.cell? ⟨w0.heap.size, 0, none⟩ = some (.int .i64 0) := (blk_cell HI.out.zb 0).trans rfl
      have y0 := blk_frozen HI.out.zb 0
      have z1 : wr.cell? ⟨w0.heap.size, 1, none⟩ = some (.int .u16 0) := (blk_cell HI.out.zb 1).trans rfl
      have y1 := blk_frozen HI.out.zb 1
      have z2 : wr.cell? ⟨w0.heap.size, 2, none⟩ = some (.bool false) := (blk_cell HI.out.zb 2).trans rfl
      have y2 := blk_frozen HI.out.zb 2
      have z3 : wr.cell? ⟨w0.heap.size, 3, none⟩ = some (.bool false) := (blk_cell HI.out.zb 3).trans rfl
      have y3 := blk_frozen HI.out.zb 3
      have z4 : wr.cell? ⟨w0.heap.size, 4, none⟩ = some (.bool false) := (blk_cell HI.out.zb 4).trans rfl
      have y4 := blk_frozen HI.out.zb 4
      have z5 : wr.cell? ⟨w0.heap.size, 5, none⟩ = some (.bool false) := (blk_cell HI.out.zb 5).trans rfl
      have y5 := blk_frozen HI.out.zb 5
      have z6 : wr.cell? ⟨w0.heap.size, 6, none⟩ = some (.bool false) := (blk_cell HI.out.zb 6).trans rfl
      have y6 := blk_frozen HI.out.zb 6
      have z7 : wr.cell? ⟨w0.heap.size, 7, none⟩ = some (.bool false) := (blk_cell HI.out.zb 7).trans rfl
      have y7 := blk_frozen HI.out.zb 7
      have z8 : wr.cell? ⟨w0.heap.size, 8, none⟩ = some (.bool false) := (blk_cell HI.out.zb 8).trans rfl
      have y8 := blk_frozen HI.out.zb 8
      have z9 : wr.cell? ⟨w0.heap.size, 9, none⟩ = some (.int .u8 0) := (blk_cell HI.out.zb 9).trans rfl
      have y9 := blk_frozen HI.out.zb 9
      go_wp2
      have IB : Aside0 (Inv w0 W g wb s wr.drew) := ⟨HI.out.below (pw_below_drewN (Below.refl wr.heap.size wr) 1)⟩
      clear HI
      go_region_with (first | (go_at_call 36; (with_reducible refine (line_calls s wr.drew (by have := HK2.out; omega) (by have := HK2.out; omega) (by have := HK2.out; omega) (by have := HK2.out; omega) (by have := HK2.out; omega) (by have := HK2.out; omega) (GOk.below HG.out IB.out.bel)).mono ?_); rintro e w4 ⟨rfl, hb⟩; have I4 := Aside0.mk (IB.out.below hb); have cc0 : w4.cell? ⟨g, 0, none⟩ = some (.int .i64 s.f0) := (blk_cell I4.out.bx 0).trans rfl; have cc1 : w4.cell? ⟨g, 1, none⟩ = some (.int .u16 s.f1) := (blk_cell I4.out.bx 1).trans rfl; have cc2 : w4.cell? ⟨g, 2, none⟩ = some (.bool s.f2) := (blk_cell I4.out.bx 2).trans rfl; have cc3 : w4.cell? ⟨g, 3, none⟩ = some (.bool s.f3) := (blk_cell I4.out.bx 3).trans rfl; have cc4 : w4.cell? ⟨g, 4, none⟩ = some (.bool s.f4) := (blk_cell I4.out.bx 4).trans rfl; have cc5 : w4.cell? ⟨g, 5, none⟩ = some (.bool s.f5) := (blk_cell I4.out.bx 5).trans rfl; have cc6 : w4.cell? ⟨g, 6, none⟩ = some (.bool s.f6) := (blk_cell I4.out.bx 6).trans rfl; have cc7 : w4.cell? ⟨g, 7, none⟩ = some (.bool s.f7) := (blk_cell I4.out.bx 7).trans rfl; have cc8 : w4.cell? ⟨g, 8, none⟩ = some (.bool s.f8) := (blk_cell I4.out.bx 8).trans rfl; have cc9 : w4.cell? ⟨g, 9, none⟩ = some (.int .u8 s.f9) := (blk_cell I4.out.bx 9).trans rfl; have zz0 : w4.cell? ⟨w0.heap.size, 0, none⟩ = some (.int .i64 0) := (blk_cell I4.out.zb 0).trans rfl; have yy0 := blk_frozen I4.out.zb 0; have zz1 : w4.cell? ⟨w0.heap.size, 1, none⟩ = some (.int .u16 0) := (blk_cell I4.out.zb 1).trans rfl; have yy1 := blk_frozen I4.out.zb 1; have zz2 : w4.cell? ⟨w0.heap.size, 2, none⟩ = some (.bool false) := (blk_cell I4.out.zb 2).trans rfl; have yy2 := blk_frozen I4.out.zb 2; have zz3 : w4.cell? ⟨w0.heap.size, 3, none⟩ = some (.bool false) := (blk_cell I4.out.zb 3).trans rfl; have yy3 := blk_frozen I4.out.zb 3; have zz4 : w4.cell? ⟨w0.heap.size, 4, none⟩ = some (.bool false) := (blk_cell I4.out.zb 4).trans rfl; have yy4 := blk_frozen I4.out.zb 4; have zz5 : w4.cell? ⟨w0.heap.size, 5, none⟩ = some (.bool false) := (blk_cell I4.out.zb 5).trans rfl; have yy5 := blk_frozen I4.out.zb 5; have zz6 : w4.cell? ⟨w0.heap.size, 6, none⟩ = some (.bool false) := (blk_cell I4.out.zb 6).trans rfl; have yy6 := blk_frozen I4.out.zb 6; have zz7 : w4.cell? ⟨w0.heap.size, 7, none⟩ = some (.bool false) := (blk_cell I4.out.zb 7).trans rfl; have yy7 := blk_frozen I4.out.zb 7; have zz8 : w4.cell? ⟨w0.heap.size, 8, none⟩ = some (.bool false) := (blk_cell I4.out.zb 8).trans rfl; have yy8 := blk_frozen I4.out.zb 8; have zz9 : w4.cell? ⟨w0.heap.size, 9, none⟩ = some (.int .u8 0) := (blk_cell I4.out.zb 9).trans rfl; have yy9 := blk_frozen I4.out.zb 9; clear hb))
      all_goals go_wp2
      all_goals have P3 : Aside0 (Bx s w0.heap.size (put34 w4 w0.heap.size s)) := ⟨put34_bx I4.out.zb _⟩
      all_goals have B3 : Aside0 (Below w0.heap.size w0 (put34 w4 w0.heap.size s)) := ⟨put34_below _ I4.out.bel (Nat.le_refl _) _⟩
      all_goals unfold put34 at P3 B3
      all_goals generalize ((((((((((w4.setCell ⟨w0.heap.size, 0, none⟩ (.int .i64 s.f0)).setCell ⟨w0.heap.size, 1, none⟩ (.int .u16 s.f1)).setCell ⟨w0.heap.size, 2, none⟩ (.bool s.f2)).setCell ⟨w0.heap.size, 3, none⟩ (.bool s.f3)).setCell ⟨w0.heap.size, 4, none⟩ (.bool s.f4)).setCell ⟨w0.heap.size, 5, none⟩ (.bool s.f5)).setCell ⟨w0.heap.size, 6, none⟩ (.bool s.f6)).setCell ⟨w0.heap.size, 7, none⟩ (.bool s.f7)).setCell ⟨w0.heap.size, 8, none⟩ (.bool s.f8)).setCell ⟨w0.heap.size, 9, none⟩ (.int .u8 s.f9)) = w6 at P3 B3 ⊢
      all_goals have d0 : w6.cell? ⟨w0.heap.size, 0, none⟩ = some (.int .i64 s.f0) := (blk_cell P3.out 0).trans rfl
      all_goals have d1 : w6.cell? ⟨w0.heap.size, 1, none⟩ = some (.int .u16 s.f1) := (blk_cell P3.out 1).trans rfl
      all_goals have d2 : w6.cell? ⟨w0.heap.size, 2, none⟩ = some (.bool s.f2) := (blk_cell P3.out 2).trans rfl
      all_goals have d3 : w6.cell? ⟨w0.heap.size, 3, none⟩ = some (.bool s.f3) := (blk_cell P3.out 3).trans rfl
      all_goals have d4 : w6.cell? ⟨w0.heap.size, 4, none⟩ = some (.bool s.f4) := (blk_cell P3.out 4).trans rfl
      all_goals have d5 : w6.cell? ⟨w0.heap.size, 5, none⟩ = some (.bool s.f5) := (blk_cell P3.out 5).trans rfl
      all_goals have d6 : w6.cell? ⟨w0.heap.size, 6, none⟩ = some (.bool s.f6) := (blk_cell P3.out 6).trans rfl
      all_goals have d7 : w6.cell? ⟨w0.heap.size, 7, none⟩ = some (.bool s.f7) := (blk_cell P3.out 7).trans rfl
      all_goals have d8 : w6.cell? ⟨w0.heap.size, 8, none⟩ = some (.bool s.f8) := (blk_cell P3.out 8).trans rfl
      all_goals have d9 : w6.cell? ⟨w0.heap.size, 9, none⟩ = some (.int .u8 s.f9) := (blk_cell P3.out 9).trans rfl
      all_goals refine bodyPost_ret (v := .tuple #[.agg #[.int .i64 s.f0, .int .u16 s.f1, .bool s.f2, .bool s.f3, .bool s.f4, .bool s.f5, .bool s.f6, .bool s.f7, .bool s.f8, .int .u8 s.f9], .bool (lineB s == l)]) (by simp [results, Tryd.results43, go_sem, beq_list, d0, d1, d2, d3, d4, d5, d6, d7, d8, d9]) rfl ⟨rfl, B3.out⟩

end Go.Proofs.YtdjffafcmomalaaDoor.Scr
