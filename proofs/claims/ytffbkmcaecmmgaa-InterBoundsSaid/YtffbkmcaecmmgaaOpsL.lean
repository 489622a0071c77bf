/- vesperlaw20.InterBounds, walked: it answers true. -/
import Derived.Test.YtffbkmcaecmmgaaOpsZ
import Derived.Test.YtffbkmcaecmmgaaPInterBoundsx5
set_option linter.unusedVariables false
set_option linter.unusedSimpArgs false
namespace Go.Proofs.Ytffbkmcaecmmgaa.Ops
open Go Go.RowKit
open Go.Proofs.YtffbkmcaecmmgaaW.PrintWords Go.Proofs.Ytffbkmcaecmmgaa.PInterBounds

/-- The document's Encode tells the same orders as the program's. -/
def RefSaid : Prop := ∀ o : Ord, o.Ok → ∃ k x e, vesperref16_Encode.f k o.op o.x o.y o.n o.b o.a = some (x, e) ∧ tbl.any (okB o) = (e == 0)
theorem bound_no {o : Ord} (h : tbl.any (okB o) = false) : boundN o = 0 := by unfold boundN; rw [h]; rfl
theorem bound_one {o : Ord} (h : o.op = 1) : boundN o = 0 := by unfold boundN; split <;> first | rfl | (rw [if_pos h])
theorem bound_same {o p : Ord} (h : tbl.any (okB o) = true) (hp : tbl.any (okB p) = true) (e : p.op = o.op) : boundN p = boundN o := by unfold boundN; rw [h, hp, e]
theorem bound_yes {o : Ord} (h : tbl.any (okB o) = true) (h1 : ¬ o.op = 1) : (o.op = 2 ∧ boundN o = 12000) ∨ (o.op = 20 ∧ boundN o = 12000) ∨ (¬ o.op = 2 ∧ ¬ o.op = 20 ∧ boundN o = 5000) := by
  unfold boundN bnd
  rw [h, if_pos rfl, if_neg h1]
  by_cases h2 : o.op = 2
  · exact .inl ⟨h2, by rw [if_pos h2, if_pos (by decide)]⟩
  · by_cases h3 : o.op = 20
    · exact .inr (.inl ⟨h3, by rw [if_neg h2, if_pos h3, if_pos (by decide)]⟩)
    · exact .inr (.inr ⟨h2, h3, by rw [if_neg h2, if_neg h3, if_neg (by decide)]⟩)
set_option maxRecDepth 100000 in
set_option maxHeartbeats 8000000 in
theorem law_calls (RC : RowsSaid) (RF : RefSaid) (o p : Ord) (ho : o.Ok) (hp : p.Ok) (w : World) : Calls Try.prog 3 #[.agg #[.int .u8 o.op, .int .u8 o.x, .int .u8 o.y, .int .u8 o.n, .int .u8 o.b, .int .u16 o.a], .agg #[.int .u8 p.op, .int .u8 p.x, .int .u8 p.y, .int .u8 p.n, .int .u8 p.b, .int .u16 p.a]] w fun e w' => e = .returned (.bool true) ∧ Below w.heap.size w w' := by
  obtain ⟨k1, x1, e1, hf1, hk1⟩ := RF o ho
  obtain ⟨k2, x2, e2, hf2, hk2⟩ := RF ⟨o.op, p.x, p.y, p.n, p.b, p.a⟩ ⟨ho.op0, ho.op1, hp.x0, hp.x1, hp.y0, hp.y1, hp.n0, hp.n1, hp.b0, hp.b1, hp.a0, hp.a1⟩
  have hx := ((blk_alloc (blk_new w (.cells #[.int .u8 o.op, .int .u8 o.x, .int .u8 o.y, .int .u8 o.n, .int .u8 o.b, .int .u16 o.a] 25)) (.cells #[.int .u8 p.op, .int .u8 p.x, .int .u8 p.y, .int .u8 p.n, .int .u8 p.b, .int .u16 p.a] 25)))
  have hy := blk_new (w.alloc (.cells #[.int .u8 o.op, .int .u8 o.x, .int .u8 o.y, .int .u8 o.n, .int .u8 o.b, .int .u16 o.a] 25)) (.cells #[.int .u8 p.op, .int .u8 p.x, .int .u8 p.y, .int .u8 p.n, .int .u8 p.b, .int .u16 p.a] 25)
  rw [World.size_alloc] at hy
  have hb := below_alloc (below_alloc (Below.refl w.heap.size w) (.cells #[.int .u8 o.op, .int .u8 o.x, .int .u8 o.y, .int .u8 o.n, .int .u8 o.b, .int .u16 o.a] 25)) (.cells #[.int .u8 p.op, .int .u8 p.x, .int .u8 p.y, .int .u8 p.n, .int .u8 p.b, .int .u16 p.a] 25)
  have X := Aside0.mk hx
  have Y := Aside0.mk hy
  have B := Aside0.mk hb
  have HO := Aside0.mk ho
  have HP2 : Aside0 (Ord.Ok ⟨o.op, p.x, p.y, p.n, p.b, p.a⟩) := ⟨⟨ho.op0, ho.op1, hp.x0, hp.x1, hp.y0, hp.y1, hp.n0, hp.n1, hp.b0, hp.b1, hp.a0, hp.a1⟩⟩
  have F1 := Aside0.mk hf1
  have F2 := Aside0.mk hf2
  have K1 := Aside0.mk hk1
  have K2 := Aside0.mk hk2
  clear hf1 hf2 hk1 hk2 hx hy hb ho hp
  go_enter Try.func3, Try.ntmps3
  go_wp2_with fail
  generalize ((w.alloc (.cells #[.int .u8 o.op, .int .u8 o.x, .int .u8 o.y, .int .u8 o.n, .int .u8 o.b, .int .u16 o.a] 25)).alloc (.cells #[.int .u8 p.op, .int .u8 p.x, .int .u8 p.y, .int .u8 p.n, .int .u8 p.b, .int .u16 p.a] 25)) = w1 at X Y B ⊢
  (with_reducible refine (bound_calls RC o HO.out _).mono ?_)
  rintro e w2 ⟨rfl, hb2⟩
  obtain ⟨n, hn⟩ : ∃ n, boundN o = n := ⟨_, rfl⟩
  rw [hn]
  have NN := Aside0.mk hn
  have X2 := Aside0.mk (blk_below X.out hb2)
  have Y2 := Aside0.mk (blk_below Y.out hb2)
  have B2 := Aside0.mk (below_step B.out hb2)
  clear hn hb2 X Y B
  have hx := X2.out
  have x0 := (blk_cell hx 0).trans (rfl : _ = some (Value.int .u8 o.op))
  have x1' := (blk_cell hx 1).trans (rfl : _ = some (Value.int .u8 o.x))
  have x2' := (blk_cell hx 2).trans (rfl : _ = some (Value.int .u8 o.y))
  have x3 := (blk_cell hx 3).trans (rfl : _ = some (Value.int .u8 o.n))
  have x4 := (blk_cell hx 4).trans (rfl : _ = some (Value.int .u8 o.b))
  have x5 := (blk_cell hx 5).trans (rfl : _ = some (Value.int .u16 o.a))
  clear hx
  go_wp2_with fail
  (with_reducible refine (vesperref16_Encode.calls k1 o.op o.x o.y o.n o.b o.a x1 e1 _ F1.out).mono ?_)
  rintro e w3 ⟨rfl, hb3⟩
  have X3 := Aside0.mk (blk_below X2.out hb3)
  have Y3 := Aside0.mk (blk_below Y2.out hb3)
  have B3 := Aside0.mk (below_step B2.out hb3)
  clear hb3 X2 Y2 B2 x0 x1' x2' x3 x4 x5
  have hx := X3.out
  have x0 := (blk_cell hx 0).trans (rfl : _ = some (Value.int .u8 o.op))
  have hl1 : w.heap.size + 1 < w3.heap.size := blk_lt Y3.out
  clear hx
  by_cases hE : e1 = 0
  · have hEb : (e1 != 0) = false := by rw [hE]; rfl
    by_cases h1 : o.op = 1
    · have h1b : (o.op == 1) = true := beq_iff_eq.2 h1
      have hn0 : n = 0 := by rw [← NN.out]; exact bound_one h1
      subst hn0
      clear hE h1
      go_wp2
      go_ret
      exact ⟨rfl, B3.out⟩
    · have h1b : (o.op == 1) = false := beq_eq_false_iff_ne.2 h1
      have hk : tbl.any (okB o) = true := by rw [K1.out, hE]; rfl
      have hy := bound_yes hk h1
      rw [NN.out] at hy
      have HKO := Aside0.mk hk
      clear hE h1 hk
      have hz := Y3.out
      have y0 := (blk_cell hz 0).trans (rfl : _ = some (Value.int .u8 p.op))
      have y1 := (blk_cell hz 1).trans (rfl : _ = some (Value.int .u8 p.x))
      have y2 := (blk_cell hz 2).trans (rfl : _ = some (Value.int .u8 p.y))
      have y3 := (blk_cell hz 3).trans (rfl : _ = some (Value.int .u8 p.n))
      have y4 := (blk_cell hz 4).trans (rfl : _ = some (Value.int .u8 p.b))
      have y5 := (blk_cell hz 5).trans (rfl : _ = some (Value.int .u16 p.a))
      have v0 := blk_frozen hz 0
      have hne : ¬ w.heap.size = w.heap.size + 1 := by omega
      have YY := Aside0.mk (blk_put (cs' := #[.int .u8 o.op, .int .u8 p.x, .int .u8 p.y, .int .u8 p.n, .int .u8 p.b, .int .u16 p.a]) hz 0 (Value.int .u8 o.op) rfl)
      have BY := Aside0.mk (B3.out.setCell (p := ⟨w.heap.size + 1, 0, none⟩) (Nat.le_succ _) (Value.int .u8 o.op))
      clear hz X3 Y3 B3
      rcases hy with ⟨g1, g2⟩ | ⟨g1, g2⟩ | ⟨g1, g3, g2⟩
      · have i1 : (o.op == 2) = true := beq_iff_eq.2 g1
        clear g1
        subst g2
        go_upto_region 9 with fail
        generalize w3.setCell ⟨w.heap.size + 1, 0, none⟩ (Value.int .u8 o.op) = w4 at YY BY ⊢
        clear y0 y1 y2 y3 y4 y5 v0 hl1 x0
        have hz := YY.out
        have y0 := (blk_cell hz 0).trans (rfl : _ = some (Value.int .u8 o.op))
        have y1 := (blk_cell hz 1).trans (rfl : _ = some (Value.int .u8 p.x))
        have y2 := (blk_cell hz 2).trans (rfl : _ = some (Value.int .u8 p.y))
        have y3 := (blk_cell hz 3).trans (rfl : _ = some (Value.int .u8 p.n))
        have y4 := (blk_cell hz 4).trans (rfl : _ = some (Value.int .u8 p.b))
        have y5 := (blk_cell hz 5).trans (rfl : _ = some (Value.int .u16 p.a))
        clear hz
        go_wp2_with fail
        (with_reducible refine (vesperref16_Encode.calls k2 o.op p.x p.y p.n p.b p.a x2 e2 _ F2.out).mono ?_)
        rintro e w5 ⟨rfl, hb5⟩
        have hz := blk_below YY.out hb5
        have B5 := Aside0.mk (below_step BY.out hb5)
        clear hb5 y0 y1 y2 y3 y4 y5 YY BY
        have y0 := (blk_cell hz 0).trans (rfl : _ = some (Value.int .u8 o.op))
        have y1 := (blk_cell hz 1).trans (rfl : _ = some (Value.int .u8 p.x))
        have y2 := (blk_cell hz 2).trans (rfl : _ = some (Value.int .u8 p.y))
        have y3 := (blk_cell hz 3).trans (rfl : _ = some (Value.int .u8 p.n))
        have y4 := (blk_cell hz 4).trans (rfl : _ = some (Value.int .u8 p.b))
        have y5 := (blk_cell hz 5).trans (rfl : _ = some (Value.int .u16 p.a))
        clear hz
        go_wp2_with fail
        (with_reducible refine (bound_calls RC ⟨o.op, p.x, p.y, p.n, p.b, p.a⟩ HP2.out _).mono ?_)
        rintro e w6 ⟨rfl, hb6⟩
        obtain ⟨m, hm⟩ : ∃ m, boundN ⟨o.op, p.x, p.y, p.n, p.b, p.a⟩ = m := ⟨_, rfl⟩
        rw [hm]
        have B6 := Aside0.mk (below_step B5.out hb6)
        clear hb6 y0 y1 y2 y3 y4 y5
        by_cases hF : e2 = 0
        · have hkp : tbl.any (okB ⟨o.op, p.x, p.y, p.n, p.b, p.a⟩) = true := by rw [K2.out, hF]; rfl
          have hmn := bound_same HKO.out hkp rfl
          rw [hm, NN.out] at hmn
          subst hmn
          have hFb : (e2 != 0) = false := by rw [hF]; rfl
          have hFc : (e2 == 0) = true := by rw [hF]; rfl
          clear hm hF hkp
          go_wp2
          go_ret
          exact ⟨rfl, B6.out⟩
        · have hm0 : m = 0 := by rw [← hm]; exact bound_no (by rw [K2.out]; exact beq_eq_false_iff_ne.2 hF)
          subst hm0
          have hFb : (e2 != 0) = true := bne_iff_ne.2 hF
          have hFc : (e2 == 0) = false := beq_eq_false_iff_ne.2 hF
          clear hm hF
          go_wp2
          go_ret
          exact ⟨rfl, B6.out⟩
      · have i1 : (o.op == 2) = false := by rw [g1]; rfl
        have i2 : (o.op == 20) = true := beq_iff_eq.2 g1
        clear g1
        subst g2
        go_upto_region 9 with fail
        generalize w3.setCell ⟨w.heap.size + 1, 0, none⟩ (Value.int .u8 o.op) = w4 at YY BY ⊢
        clear y0 y1 y2 y3 y4 y5 v0 hl1 x0
        have hz := YY.out
        have y0 := (blk_cell hz 0).trans (rfl : _ = some (Value.int .u8 o.op))
        have y1 := (blk_cell hz 1).trans (rfl : _ = some (Value.int .u8 p.x))
        have y2 := (blk_cell hz 2).trans (rfl : _ = some (Value.int .u8 p.y))
        have y3 := (blk_cell hz 3).trans (rfl : _ = some (Value.int .u8 p.n))
        have y4 := (blk_cell hz 4).trans (rfl : _ = some (Value.int .u8 p.b))
        have y5 := (blk_cell hz 5).trans (rfl : _ = some (Value.int .u16 p.a))
        clear hz
        go_wp2_with fail
        (with_reducible refine (vesperref16_Encode.calls k2 o.op p.x p.y p.n p.b p.a x2 e2 _ F2.out).mono ?_)
        rintro e w5 ⟨rfl, hb5⟩
        have hz := blk_below YY.out hb5
        have B5 := Aside0.mk (below_step BY.out hb5)
        clear hb5 y0 y1 y2 y3 y4 y5 YY BY
        have y0 := (blk_cell hz 0).trans (rfl : _ = some (Value.int .u8 o.op))
        have y1 := (blk_cell hz 1).trans (rfl : _ = some (Value.int .u8 p.x))
        have y2 := (blk_cell hz 2).trans (rfl : _ = some (Value.int .u8 p.y))
        have y3 := (blk_cell hz 3).trans (rfl : _ = some (Value.int .u8 p.n))
        have y4 := (blk_cell hz 4).trans (rfl : _ = some (Value.int .u8 p.b))
        have y5 := (blk_cell hz 5).trans (rfl : _ = some (Value.int .u16 p.a))
        clear hz
        go_wp2_with fail
        (with_reducible refine (bound_calls RC ⟨o.op, p.x, p.y, p.n, p.b, p.a⟩ HP2.out _).mono ?_)
        rintro e w6 ⟨rfl, hb6⟩
        obtain ⟨m, hm⟩ : ∃ m, boundN ⟨o.op, p.x, p.y, p.n, p.b, p.a⟩ = m := ⟨_, rfl⟩
        rw [hm]
        have B6 := Aside0.mk (below_step B5.out hb6)
        clear hb6 y0 y1 y2 y3 y4 y5
        by_cases hF : e2 = 0
        · have hkp : tbl.any (okB ⟨o.op, p.x, p.y, p.n, p.b, p.a⟩) = true := by rw [K2.out, hF]; rfl
          have hmn := bound_same HKO.out hkp rfl
          rw [hm, NN.out] at hmn
          subst hmn
          have hFb : (e2 != 0) = false := by rw [hF]; rfl
          have hFc : (e2 == 0) = true := by rw [hF]; rfl
          clear hm hF hkp
          go_wp2
          go_ret
          exact ⟨rfl, B6.out⟩
        · have hm0 : m = 0 := by rw [← hm]; exact bound_no (by rw [K2.out]; exact beq_eq_false_iff_ne.2 hF)
          subst hm0
          have hFb : (e2 != 0) = true := bne_iff_ne.2 hF
          have hFc : (e2 == 0) = false := beq_eq_false_iff_ne.2 hF
          clear hm hF
          go_wp2
          go_ret
          exact ⟨rfl, B6.out⟩
      · have i1 : (o.op == 2) = false := beq_eq_false_iff_ne.2 g1
        have i2 : (o.op == 20) = false := beq_eq_false_iff_ne.2 g3
        clear g1 g3
        subst g2
        go_upto_region 9 with fail
        generalize w3.setCell ⟨w.heap.size + 1, 0, none⟩ (Value.int .u8 o.op) = w4 at YY BY ⊢
        clear y0 y1 y2 y3 y4 y5 v0 hl1 x0
        have hz := YY.out
        have y0 := (blk_cell hz 0).trans (rfl : _ = some (Value.int .u8 o.op))
        have y1 := (blk_cell hz 1).trans (rfl : _ = some (Value.int .u8 p.x))
        have y2 := (blk_cell hz 2).trans (rfl : _ = some (Value.int .u8 p.y))
        have y3 := (blk_cell hz 3).trans (rfl : _ = some (Value.int .u8 p.n))
        have y4 := (blk_cell hz 4).trans (rfl : _ = some (Value.int .u8 p.b))
        have y5 := (blk_cell hz 5).trans (rfl : _ = some (Value.int .u16 p.a))
        clear hz
        go_wp2_with fail
        (with_reducible refine (vesperref16_Encode.calls k2 o.op p.x p.y p.n p.b p.a x2 e2 _ F2.out).mono ?_)
        rintro e w5 ⟨rfl, hb5⟩
        have hz := blk_below YY.out hb5
        have B5 := Aside0.mk (below_step BY.out hb5)
        clear hb5 y0 y1 y2 y3 y4 y5 YY BY
        have y0 := (blk_cell hz 0).trans (rfl : _ = some (Value.int .u8 o.op))
        have y1 := (blk_cell hz 1).trans (rfl : _ = some (Value.int .u8 p.x))
        have y2 := (blk_cell hz 2).trans (rfl : _ = some (Value.int .u8 p.y))
        have y3 := (blk_cell hz 3).trans (rfl : _ = some (Value.int .u8 p.n))
        have y4 := (blk_cell hz 4).trans (rfl : _ = some (Value.int .u8 p.b))
        have y5 := (blk_cell hz 5).trans (rfl : _ = some (Value.int .u16 p.a))
        clear hz
        go_wp2_with fail
        (with_reducible refine (bound_calls RC ⟨o.op, p.x, p.y, p.n, p.b, p.a⟩ HP2.out _).mono ?_)
        rintro e w6 ⟨rfl, hb6⟩
        obtain ⟨m, hm⟩ : ∃ m, boundN ⟨o.op, p.x, p.y, p.n, p.b, p.a⟩ = m := ⟨_, rfl⟩
        rw [hm]
        have B6 := Aside0.mk (below_step B5.out hb6)
        clear hb6 y0 y1 y2 y3 y4 y5
        by_cases hF : e2 = 0
        · have hkp : tbl.any (okB ⟨o.op, p.x, p.y, p.n, p.b, p.a⟩) = true := by rw [K2.out, hF]; rfl
          have hmn := bound_same HKO.out hkp rfl
          rw [hm, NN.out] at hmn
          subst hmn
          have hFb : (e2 != 0) = false := by rw [hF]; rfl
          have hFc : (e2 == 0) = true := by rw [hF]; rfl
          clear hm hF hkp
          go_wp2
          go_ret
          exact ⟨rfl, B6.out⟩
        · have hm0 : m = 0 := by rw [← hm]; exact bound_no (by rw [K2.out]; exact beq_eq_false_iff_ne.2 hF)
          subst hm0
          have hFb : (e2 != 0) = true := bne_iff_ne.2 hF
          have hFc : (e2 == 0) = false := beq_eq_false_iff_ne.2 hF
          clear hm hF
          go_wp2
          go_ret
          exact ⟨rfl, B6.out⟩
  · have hEb : (e1 != 0) = true := bne_iff_ne.2 hE
    have hn0 : n = 0 := by rw [← NN.out]; exact bound_no (by rw [K1.out]; exact beq_eq_false_iff_ne.2 hE)
    subst hn0
    clear hE
    go_wp2
    go_ret
    exact ⟨rfl, B3.out⟩
end Go.Proofs.Ytffbkmcaecmmgaa.Ops
