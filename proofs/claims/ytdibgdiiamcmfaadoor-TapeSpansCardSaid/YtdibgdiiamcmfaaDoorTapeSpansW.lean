/- The law vesperlaw12.TapeSpans, walked: it answers true. -/
import Derived.Test.YtdibgdiiamcmfaaDoorTapeSpansP
import Derived.Test.YtdibgdiiamcmfaaDoorTapeSpansL
import Derived.Test.YtdibgdiiamcmfaaDoorTapeLent
import Derived.Test.YtdibgdiiamcmfaaDoorPTapex3
set_option linter.unusedVariables false
set_option linter.unusedSimpArgs false
namespace Go.Proofs.YtdibgdiiamcmfaaDoor.SpansW
open Go Go.RowKit
open Go.Proofs.YtdibgdiiamcmfaaDoorW.PrintWords Go.Proofs.YtdibgdiiamcmfaaDoor.PTape Go.Proofs.YtdibgdiiamcmfaaDoor.App
open Go.Proofs.YtdibgdiiamcmfaaDoor.Reader (GOk)
open SpansL
attribute [local go_sem ↓ high] appG_eq

theorem awake_ok (k : Nat) (h : 30 ≤ k) : vesperlaw12_awake.f k = some true :=
  at_rounds vesperlaw12_awake.mono h (by decide +kernel)

theorem lent_C {w : World} {b g : Nat} {l : List S37} (h : Waves.RW w b (.slice (some ⟨g, 0, none⟩) (l.length + 1) (l.length + 1)) (l ++ [⟨-77, 0⟩])) : Kd.C k37 w (some ⟨g, 0, none⟩) l.length l := by
  have := (Kd.R_reads' (Kd.R_take h (m := l.length) (by simp))).2.2
  simpa using this

section
variable (a0 a1 : Int) (a2 a3 a4 a5 a6 a7 a8 : Bool) (a9 : Int)
/-- The law's own copy of the span lies whole. -/
def Bx (b : Nat) (w : World) : Prop := w.heap[b]? = some (.cells #[.int .i64 a0, .int .u16 a1, .bool a2, .bool a3, .bool a4, .bool a5, .bool a6, .bool a7, .bool a8, .int .u8 a9] 44 (0, 0))
theorem Bx.cells {b : Nat} {w : World} (h : Bx a0 a1 a2 a3 a4 a5 a6 a7 a8 a9 b w) :
    w.cell? ⟨b, 0, none⟩ = some (.int .i64 a0) ∧ w.cell? ⟨b, 1, none⟩ = some (.int .u16 a1) ∧ w.cell? ⟨b, 2, none⟩ = some (.bool a2) ∧ w.cell? ⟨b, 3, none⟩ = some (.bool a3) ∧ w.cell? ⟨b, 4, none⟩ = some (.bool a4) ∧
    w.cell? ⟨b, 5, none⟩ = some (.bool a5) ∧ w.cell? ⟨b, 6, none⟩ = some (.bool a6) ∧ w.cell? ⟨b, 7, none⟩ = some (.bool a7) ∧ w.cell? ⟨b, 8, none⟩ = some (.bool a8) ∧ w.cell? ⟨b, 9, none⟩ = some (.int .u8 a9) :=
  ⟨(blk_cell h 0).trans rfl, (blk_cell h 1).trans rfl, (blk_cell h 2).trans rfl, (blk_cell h 3).trans rfl, (blk_cell h 4).trans rfl, (blk_cell h 5).trans rfl, (blk_cell h 6).trans rfl, (blk_cell h 7).trans rfl, (blk_cell h 8).trans rfl, (blk_cell h 9).trans rfl⟩
theorem Bx.below {b : Nat} {w w1 : World} (h : Bx a0 a1 a2 a3 a4 a5 a6 a7 a8 a9 b w) (hb : Below w.heap.size w w1) : Bx a0 a1 a2 a3 a4 a5 a6 a7 a8 a9 b w1 := (hb.block b (Array.getElem?_eq_some_iff.1 h).1).trans h
theorem Bx.grown {b : Nat} {w w1 : World} {g : Nat} (h : Bx a0 a1 a2 a3 a4 a5 a6 a7 a8 a9 b w) (hg : w.grownBy w1 (some g)) (hne : b ≠ g) : Bx a0 a1 a2 a3 a4 a5 a6 a7 a8 a9 b w1 := (hg.block b (Array.getElem?_eq_some_iff.1 h).1 (by simpa using hne)).trans h

set_option maxRecDepth 100000 in
set_option maxHeartbeats 8000000 in
theorem spans_law (A : Option Addr) (c : Nat) (l : List S37) (w0 : World) (hr : Kd.C k37 w0 A l.length l) (hc : l.length ≤ c) (hG : GOk w0) :
    Calls Tryd.prog 8 #[.slice A l.length c, .agg #[.int .i64 a0, .int .u16 a1, .bool a2, .bool a3, .bool a4, .bool a5, .bool a6, .bool a7, .bool a8, .int .u8 a9]] w0 fun e w' => e = .returned (.bool true) ∧ Below w0.heap.size w0 w' := by
  have HR0 := Aside0.mk hr
  have HC := Aside0.mk hc
  have HG := Aside0.mk hG
  clear hr hc hG
  by_cases hbig : 2147483647 < l.length
  · go_enter Tryd.func8, Tryd.ntmps8
    go_wp2
    go_ret
    exact ⟨rfl, below_alloc (Below.refl _ _) _⟩
  · obtain ⟨⟨r, x⟩, h1, h2, h3⟩ := SpansP.spans_same a0 a1 a2 a3 a4 a5 a6 a7 a8 a9 l (by omega)
    have H1 := Aside0.mk h1
    have H2 := Aside0.mk h2
    have H3 := Aside0.mk h3
    have HL := Aside0.mk (show l.length ≤ 100000000000 by omega)
    clear h1 h2 h3
    go_enter Tryd.func8, Tryd.ntmps8
    go_wp2_with fail
    have hbx : Bx a0 a1 a2 a3 a4 a5 a6 a7 a8 a9 w0.heap.size (w0.alloc (.cells #[.int .i64 a0, .int .u16 a1, .bool a2, .bool a3, .bool a4, .bool a5, .bool a6, .bool a7, .bool a8, .int .u8 a9] 44)) := heap_alloc_new w0 _
    have BX := Aside0.mk hbx
    have HB := Aside0.mk (below_alloc (Below.refl w0.heap.size w0) (.cells #[.int .i64 a0, .int .u16 a1, .bool a2, .bool a3, .bool a4, .bool a5, .bool a6, .bool a7, .bool a8, .int .u8 a9] 44))
    have HZ : Aside0 (w0.heap.size + 1 ≤ (w0.alloc (.cells #[.int .i64 a0, .int .u16 a1, .bool a2, .bool a3, .bool a4, .bool a5, .bool a6, .bool a7, .bool a8, .int .u8 a9] 44)).heap.size) := ⟨by simp⟩
    clear hbx
    generalize w0.alloc (.cells #[.int .i64 a0, .int .u16 a1, .bool a2, .bool a3, .bool a4, .bool a5, .bool a6, .bool a7, .bool a8, .int .u8 a9] 44) = w at BX HB HZ ⊢
    have HR := Aside0.mk (Kd.C_below HR0.out HB.out)
    (with_reducible refine (Lent.lent_calls A c l _ HR.out HC.out HL.out).mono ?_)
    rintro e w1 ⟨g, hg, rfl, hx1, hb1⟩
    have X1 := Aside0.mk hx1
    have X1b := Aside0.mk (BX.out.below _ _ _ _ _ _ _ _ _ _ hb1)
    have B1 := Aside0.mk (below_step HB.out hb1)
    have g1 : g < w1.heap.size := Kd.R_lt hx1 g rfl
    have hne : w0.heap.size ≠ g := by have := HZ.out; omega
    have C1 := Aside0.mk (lent_C hx1)
    obtain ⟨q0, q1, q2, q3, q4, q5, q6, q7, q8, q9⟩ := X1b.out.cells
    clear hx1 hb1 BX
    go_wp2_with fail
    clear q0 q1 q2 q3 q4 q5 q6 q7 q8 q9
    (with_reducible refine (tape_Spans.calls (l.length + 20000) (some ⟨g, 0, none⟩) (l.length + 1) l a0 a1 a2 a3 a4 a5 a6 a7 a8 a9 r x _ C1.out (Nat.le_succ _) H1.out).mono ?_)
    rintro e w2 ⟨v1, rfl, ho2, hb2⟩
    have hap : ∀ k, v1.ownBlock = some k → k ≠ g := fun k hk => by have := Kd.R_base ho2 k hk; omega
    have O2 : Aside0 (R44 w2 w1.heap.size v1 r) := ⟨ho2⟩
    have X2 : Aside0 (Waves.RW w2 w.heap.size (.slice (some ⟨g, 0, none⟩) (l.length + 1) (l.length + 1)) (l ++ [⟨-77, 0⟩])) := ⟨Kd.R_below X1.out hb2⟩
    have X2b := Aside0.mk (X1b.out.below _ _ _ _ _ _ _ _ _ _ hb2)
    have B2 := Aside0.mk (below_step B1.out hb2)
    have s1 := Aside0.mk (show w0.heap.size ≤ w1.heap.size from B1.out.size)
    have R2 := Aside0.mk (Kd.C_below HR0.out B2.out)
    have AP := Aside0.mk hap
    have G1 := Aside0.mk (show w0.heap.size ≤ g by have := HZ.out; omega)
    have NE := Aside0.mk hne
    clear ho2 hb2 hap g1 hg X1 C1 hne X1b
    go_wp2_with fail
    (with_reducible refine (Lent.back_calls A c l g w.heap.size _ R2.out HC.out HL.out X2.out).mono ?_)
    rintro e w3 ⟨rfl, hg3⟩
    have O3 : Aside0 (R44 w3 w0.heap.size v1 r) := ⟨R44.keep (Kd.R_lower O2.out s1.out) hg3 (fun k hk => by cases hk; intro e; exact AP.out _ e.symm rfl)⟩
    have B3 := Aside0.mk (B2.out.grown hg3 B2.out.size (fun k hk => by cases hk; exact G1.out))
    have R3 := Aside0.mk (Kd.C_below HR0.out B3.out)
    have X3b := Aside0.mk (X2b.out.grown _ _ _ _ _ _ _ _ _ _ hg3 NE.out)
    obtain ⟨q0, q1, q2, q3, q4, q5, q6, q7, q8, q9⟩ := X3b.out.cells
    clear hg3 O2 X2 X2b
    go_wp2_with fail
    clear q0 q1 q2 q3 q4 q5 q6 q7 q8 q9
    (with_reducible refine (tape_Spans.calls (l.length + 20000) A c l a0 a1 a2 a3 a4 a5 a6 a7 a8 a9 r x _ R3.out HC.out H1.out).mono ?_)
    rintro e w4 ⟨v2, rfl, ho4, hb4⟩
    have O4 : Aside0 (R44 w4 w3.heap.size v2 r) := ⟨ho4⟩
    have P4 : Aside0 (R44 w4 w0.heap.size v1 r) := ⟨Kd.R_below O3.out hb4⟩
    have B4 := Aside0.mk (below_step B3.out hb4)
    have R4 := Aside0.mk (Kd.C_below HR0.out B4.out)
    have s3 := Aside0.mk (show w0.heap.size ≤ w3.heap.size from B3.out.size)
    have X4b := Aside0.mk (X3b.out.below _ _ _ _ _ _ _ _ _ _ hb4)
    obtain ⟨q0, q1, q2, q3, q4, q5, q6, q7, q8, q9⟩ := X4b.out.cells
    clear ho4 hb4 X3b
    go_wp2_with fail
    clear q0 q1 q2 q3 q4 q5 q6 q7 q8 q9
    (with_reducible refine (vesperref12_Spans.calls (l.length + 20000) A c l a0 a1 a2 a3 a4 a5 a6 a7 a8 a9 r x _ R4.out HC.out H2.out).mono ?_)
    rintro e w5 ⟨v3, rfl, ho5, hb5⟩
    have O5 : Aside0 (R44 w5 w4.heap.size v3 r) := ⟨ho5⟩
    have P5 : Aside0 (R44 w5 w0.heap.size v1 r) := ⟨Kd.R_below P4.out hb5⟩
    have Q5 : Aside0 (R44 w5 w0.heap.size v2 r) := ⟨Kd.R_below (Kd.R_lower O4.out s3.out) hb5⟩
    have U5 : Aside0 (R44 w5 w0.heap.size v3 r) := ⟨Kd.R_lower O5.out B4.out.size⟩
    have B5 := Aside0.mk (below_step B4.out hb5)
    have AB := Aside0.mk (apart_old O3.out O4.out)
    have AU := Aside0.mk (apart_old P4.out O5.out)
    have HS := Aside0.mk (SpansP.same44 r (Nat.le_trans H3.out (by decide)))
    clear ho5 hb5 X4b
    obtain ⟨A1, c1, ev1⟩ := P5.out.reads
    obtain ⟨A2, c2, ev2⟩ := Q5.out.reads
    obtain ⟨A3, c3, ev3⟩ := U5.out.reads
    subst ev1 ev2 ev3
    have K0 : Aside0 (∀ n, Ph1 ⟨-1, 0, false, false, false, false, false, false, false, 0⟩ w0.heap.size (.slice A1 r.length c1) (.slice A2 r.length c2) (.slice A3 r.length c3) r w0 0 (w5.drewN n)) := ⟨fun n => ⟨Nat.zero_le _, by rw [fill_zero]; exact Kd.R_drewN P5.out n, Kd.R_drewN Q5.out n, Kd.R_drewN U5.out n, pw_below_drewN B5.out n, B5.out.size⟩⟩
    have hl3 : r.length ≤ 4096 := H3.out
    have R1' := Aside0.mk (Kd.R_reads' P5.out).2
    have R2' := Aside0.mk (Kd.R_reads' Q5.out).2
    have R3' := Aside0.mk (Kd.R_reads' U5.out).2
    clear P5 Q5 U5 O5 O4 O3 P4
    go_wp2_with (go_at_call 22; (with_reducible refine (vesperref07_Same.calls (r.length + 1) _ _ r A3 c3 r true _ ?_ ?_ ?_ R3'.out.1 HS.out).mono ?_); (first | exact R1'.out.2 | exact Kd.C_drewN R2'.out.2 _); (first | exact R1'.out.1 | exact R2'.out.1); (first | exact R3'.out.2 | exact Kd.C_drewN R3'.out.2 _); rintro e w1 ⟨rfl, ⟨⟨n1, rfl⟩⟩⟩)
    go_loopw [12] (fun i wr => ∃ k : Nat, k ≤ r.length ∧ i = .int .i64 k ∧ Aside0 (Ph1 ⟨-1, 0, false, false, false, false, false, false, false, 0⟩ w0.heap.size (.slice A1 r.length c1) (.slice A2 r.length c2) (.slice A3 r.length c3) r w0 k wr)) (fun i _ => r.length - (RowKit.intOf i).toNat)
    case atStart => exact ⟨0, Nat.zero_le _, rfl, ⟨K0.out _⟩⟩
    case round =>
      obtain ⟨k, hk, rfl, HP⟩ := hrel
      by_cases hlt : k < r.length
      · obtain ⟨g, cap, e, ⟨⟨u0, q0⟩, ⟨u1, q1⟩, ⟨u2, q2⟩, ⟨u3, q3⟩, ⟨u4, q4⟩, ⟨u5, q5⟩, ⟨u6, q6⟩, ⟨u7, q7⟩, ⟨u8, q8⟩, ⟨u9, q9⟩⟩, ff, hn⟩ := HP.out.step AB.out AU.out hlt
        have f0 : wr.frozen? ⟨g, k * 10, none⟩ = false := ff 0
        have f1 := ff 1
        have f2 := ff 2
        have f3 := ff 3
        have f4 := ff 4
        have f5 := ff 5
        have f6 := ff 6
        have f7 := ff 7
        have f8 := ff 8
        have f9 := ff 9
        have HN := Aside0.mk hn
        clear hn HP ff
        cases e
        have i0 : (k : Int) < (r.length : Int) := by omega
        go_wp2
        go_roundw
        case rel => exact ⟨k + 1, by omega, by go_num, HN⟩
        case measure => simp [RowKit.intOf]; omega
      · obtain rfl : k = r.length := by omega
        have P2 := HP.out.ends ⟨-2, 0, false, false, false, false, false, false, false, 0⟩ AB.out AU.out
        have HQ := Aside0.mk P2
        clear P2 HP
        go_wp2
        go_loopw [13, 14] (fun vx i wr => ∃ k : Nat, k ≤ 20 ∧ i = .int .i64 k ∧ Aside0 (Ph2 ⟨-2, 0, false, false, false, false, false, false, false, 0⟩ w0.heap.size (.slice A2 r.length c2) (.slice A3 r.length c3) (List.replicate r.length ⟨-1, 0, false, false, false, false, false, false, false, 0⟩) r w0 k vx wr)) (fun _ i _ => 20 - (RowKit.intOf i).toNat)
        case atStart => exact ⟨0, Nat.zero_le _, rfl, HQ⟩
        case round =>
          obtain ⟨k, hk, rfl, HP⟩ := hrel
          by_cases hlt : k < 20
          · obtain ⟨g1, cap1, w1, hr1, h1⟩ := HP.out.step (by simp; omega)
            have HN := Aside0.mk h1
            clear h1 HP HQ
            simp only [List.length_replicate] at hr1 HN
            go_wp2
            go_roundw
            case rel => exact ⟨k + 1, by omega, by go_num, HN⟩
            case measure => simp [RowKit.intOf]; omega
          · obtain rfl : k = 20 := by omega
            clear HQ
            have QB := Aside0.mk (Kd.R_reads' HP.out.b).2
            have QU := Aside0.mk (Kd.R_reads' HP.out.u).2
            have BB := Aside0.mk HP.out.bel
            obtain ⟨A4, c4, ex⟩ := HP.out.x.reads
            simp only [List.length_append, List.length_replicate] at ex
            clear HP
            subst ex
            go_wp2_with fail
            (with_reducible refine (vesperref07_Same.calls (r.length + 1) _ _ r A3 c3 r true _ QB.out.2 QB.out.1 QU.out.2 QU.out.1 HS.out).mono ?_)
            rintro e w5 ⟨rfl, ⟨⟨n1, rfl⟩⟩⟩
            go_wp2_with fail
            (with_reducible refine (vesperlaw12_awake.calls 30 true _ (awake_ok 30 (Nat.le_refl _)) (GOk.below HG.out (pw_below_drewN BB.out _))).mono ?_)
            rintro e w6 ⟨rfl, hb6⟩
            have B6 := Aside0.mk (below_step (pw_below_drewN BB.out _) hb6)
            clear hb6
            go_wp2
            go_ret
            exact ⟨rfl, B6.out⟩
end
end Go.Proofs.YtdibgdiiamcmfaaDoor.SpansW
