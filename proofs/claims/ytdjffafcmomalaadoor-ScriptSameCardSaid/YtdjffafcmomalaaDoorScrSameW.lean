/- The law vesperlaw07.ScriptSame, walked: it answers true. -/
import Derived.Test.YtdjffafcmomalaaDoorScrSameP
import Derived.Test.YtdjffafcmomalaaDoorPScrxA
import Derived.Test.YtdjffafcmomalaaDoorPScrx1
set_option linter.unusedVariables false
set_option linter.unusedSimpArgs false
namespace Go.Proofs.YtdjffafcmomalaaDoor.SameW
open Go Go.RowKit
open Go.Proofs.YtdjffafcmomalaaDoorW.PrintWords Go.Proofs.YtdjffafcmomalaaDoor.PScr Go.Proofs.YtdjffafcmomalaaDoor.Scr

theorem awake_ok (k : Nat) (h : 40 ≤ k) : vesperlaw07_awake.f k = some true :=
  at_rounds vesperlaw07_awake.mono h (by decide +kernel)
def RW (w : World) (b : Nat) (v : Value) (l : List S34) : Prop := k34.R 34 w b (fun _ => True) v l

theorem RW.c {w : World} {b : Nat} {A : Option Addr} {c : Nat} {l : List S34} (h : RW w b (.slice A l.length c) l) : Kd.C k34 w A l.length l := (Kd.R_reads' h).2.2
theorem RW.le {w : World} {b : Nat} {A : Option Addr} {c : Nat} {l : List S34} (h : RW w b (.slice A l.length c) l) : l.length ≤ c := (Kd.R_reads' h).2.1

attribute [local go_sem high] eqA34
theorem cells_at {w w1 : World} {ad : Addr} {n : Nat} {l : List S34} (h : Kd.C k34 w (some ad) n l) (hb : Below w.heap.size w w1) (i : Int) (h0 : 0 ≤ i) (h1 : i < (n : Int)) (s : S34) (hs : rd_T34 l i = s) :
    w1.cell? (ad.add (i.toNat * 10)) = some (.int .i64 s.f0) ∧ w1.cell? ⟨(ad.add (i.toNat * 10)).block, (ad.add (i.toNat * 10)).off + 1, none⟩ = some (.int .u16 s.f1) ∧ w1.cell? ⟨(ad.add (i.toNat * 10)).block, (ad.add (i.toNat * 10)).off + 2, none⟩ = some (.bool s.f2) ∧ w1.cell? ⟨(ad.add (i.toNat * 10)).block, (ad.add (i.toNat * 10)).off + 3, none⟩ = some (.bool s.f3) ∧ w1.cell? ⟨(ad.add (i.toNat * 10)).block, (ad.add (i.toNat * 10)).off + 4, none⟩ = some (.bool s.f4) ∧ w1.cell? ⟨(ad.add (i.toNat * 10)).block, (ad.add (i.toNat * 10)).off + 5, none⟩ = some (.bool s.f5) ∧ w1.cell? ⟨(ad.add (i.toNat * 10)).block, (ad.add (i.toNat * 10)).off + 6, none⟩ = some (.bool s.f6) ∧ w1.cell? ⟨(ad.add (i.toNat * 10)).block, (ad.add (i.toNat * 10)).off + 7, none⟩ = some (.bool s.f7) ∧ w1.cell? ⟨(ad.add (i.toNat * 10)).block, (ad.add (i.toNat * 10)).off + 8, none⟩ = some (.bool s.f8) ∧ w1.cell? ⟨(ad.add (i.toNat * 10)).block, (ad.add (i.toNat * 10)).off + 9, none⟩ = some (.int .u8 s.f9) := by
  obtain ⟨ad', e, q0, q1, q2, q3, q4, q5, q6, q7, q8, q9⟩ := at_T34 h i h0 h1
  cases e
  rw [hs] at q0 q1 q2 q3 q4 q5 q6 q7 q8 q9
  exact ⟨(hb.cell (World.block_lt_of_cell? w _ q0)).trans q0, (hb.cell (World.block_lt_of_cell? w _ q1)).trans q1, (hb.cell (World.block_lt_of_cell? w _ q2)).trans q2, (hb.cell (World.block_lt_of_cell? w _ q3)).trans q3, (hb.cell (World.block_lt_of_cell? w _ q4)).trans q4, (hb.cell (World.block_lt_of_cell? w _ q5)).trans q5, (hb.cell (World.block_lt_of_cell? w _ q6)).trans q6, (hb.cell (World.block_lt_of_cell? w _ q7)).trans q7, (hb.cell (World.block_lt_of_cell? w _ q8)).trans q8, (hb.cell (World.block_lt_of_cell? w _ q9)).trans q9⟩
theorem rd_get (m : List S34) (i : Int) (h0 : 0 ≤ i) (h : i.toNat < m.length) : rd_T34 m i = m[i.toNat] := by
  unfold rd_T34
  rw [List.getD_eq_getElem?_getD, List.getElem?_eq_getElem h]; rfl

set_option maxRecDepth 100000 in
set_option maxHeartbeats 8000000 in
theorem same_law (A : Option Addr) (c : Nat) (l : List S34) (n : Int) (A2 : Option Addr) (c2 : Nat) (o : List S34) (w : World) (hr : Kd.C k34 w A l.length l) (hc : l.length ≤ c) (hr2 : Kd.C k34 w A2 o.length o) (hc2 : o.length ≤ c2) (hG : GOk w) (hn0 : -9223372036854775808 ≤ n) (hn1 : n ≤ 9223372036854775807) :
    Calls Tryd.prog 11 #[.slice A l.length c, .int .i64 n, .slice A2 o.length c2] w fun e w' => e = .returned (.bool true) ∧ Below w.heap.size w w' := by
  have HR := Aside0.mk hr
  have HC := Aside0.mk hc
  have HR2 := Aside0.mk hr2
  have HC2 := Aside0.mk hc2
  have HG := Aside0.mk hG
  clear hr hc hG hr2 hc2
  by_cases hbig : 2147483647 < l.length
  · go_enter Tryd.func11, Tryd.ntmps11
    go_wp2
    go_ret
    exact ⟨rfl, Below.refl _ _⟩
  by_cases hbig2 : 2147483647 < o.length
  · go_enter Tryd.func11, Tryd.ntmps11
    go_wp2
    go_ret
    exact ⟨rfl, Below.refl _ _⟩
  have hcy := cycles_f 100000 l (by decide)
  by_cases he : (cyclesR l).2 = 0
  · obtain ⟨q1, q2, q3, q4⟩ := cyclesR_ok he
    obtain ⟨N, hN⟩ : ∃ N, sumC l = N := ⟨_, rfl⟩
    have hsb := sumC_bounds l q2
    have hNb : 0 ≤ N ∧ N ≤ 4194304 := by omega
    have SC := Aside0.mk (same_cut l he)
    have SN := Aside0.mk (same_norm l he)
    have SO := Aside0.mk (fun (m o : List S34) => same_other l m o he)
    rw [hN] at SC
    rw [q4, hN] at hcy
    have H1 := Aside0.mk hcy
    have bb := bits_range n
    clear hcy q2 q3 q4 he hN hsb
    go_enter Tryd.func11, Tryd.ntmps11
    go_upto_region 6 with fail
    (with_reducible refine (script_Cycles.calls 100000 A c l N 0 _ HR.out HC.out H1.out).mono ?_)
    rintro e w1 ⟨rfl, hb1⟩
    have B1 := Aside0.mk hb1
    clear hb1
    go_upto_region 6 with fail
    go_cut [46] (fun v46 wc => ∃ b : Bool, v46 = .bool b ∧ Aside0 (b = false → 0 ≤ n ∧ n ≤ N) ∧ Aside0 (Below w.heap.size w wc))
    case first =>
      by_cases c1 : n < 0
      · go_wp2
        go_meet
        case rel => exact ⟨true, by simp, ⟨by simp⟩, B1⟩
      · by_cases c2 : N < n
        · go_wp2
          go_meet
          case rel => exact ⟨true, by simp, ⟨by simp⟩, B1⟩
        · go_wp2
          go_meet
          case rel => exact ⟨false, by simp, ⟨fun _ => by omega⟩, B1⟩
    case rest =>
      obtain ⟨b, rfl, HBB, HB⟩ := hcut
      go_upto_if 46 with fail
      go_cut [1] (fun v1 wc => ∃ n' : Int, v1 = .int .i64 n' ∧ 0 ≤ n' ∧ n' ≤ N ∧ Aside0 (Below w.heap.size w wc))
      case first =>
        cases b
        · go_wp2
          go_meet
          case rel => exact ⟨n, rfl, (HBB.out (by trivial)).1, (HBB.out (by trivial)).2, HB⟩
        · obtain ⟨y, hy⟩ : ∃ y, Go.bits .and .i64 n 1099511627775 = y := ⟨_, rfl⟩
          rw [hy] at bb
          have hne : (N + 1 == 0) = false := beq_eq_false_iff_ne.mpr (by omega)
          go_wp2
          go_meet
          case rel => exact ⟨y % (N + 1), by go_num, Int.emod_nonneg _ (by omega), by have := Int.emod_lt_of_pos y (show 0 < N + 1 by omega); omega, HB⟩
      case rest =>
        obtain ⟨n', rfl, n0, n1, HB⟩ := hcut
        obtain ⟨a, b, h2, h3, h4, la, lb⟩ := SC.out n' n0 n1
        obtain ⟨z, hz⟩ : ∃ z, a ++ b = z := ⟨_, rfl⟩
        rw [hz] at h4
        have HZ := Aside0.mk hz
        clear hz
        have H2 := Aside0.mk h2
        have H3 := Aside0.mk h3
        have H4 := Aside0.mk h4
        have LA := Aside0.mk la
        have LB := Aside0.mk lb
        clear h2 h3 h4 la lb SC bb HBB B1 H1
        go_wp2_with fail
        (with_reducible refine (script_Cut.calls 100000 A c l n' a b 0 _ (Kd.C_below HR.out HB.out) HC.out H2.out).mono ?_)
        rintro e w2 ⟨va, vb, rfl, ha, hb, hB⟩
        have n0_ := Aside0.mk (below_step HB.out hB)
        have OA := Aside0.mk (Kd.R_lower ha HB.out.size)
        have OB := Aside0.mk (Kd.R_lower hb HB.out.size)
        clear HB ha hb hB
        have HB := n0_
        clear n0_
        obtain ⟨Aa, ca, ea⟩ := Kd.R_slice OA.out
        subst ea
        go_wp2_with fail
        (with_reducible refine (script_Cycles.calls 100000 Aa ca a n' 0 _ (Kd.R_reads' OA.out).2.2 (Kd.R_reads' OA.out).2.1 H3.out).mono ?_)
        rintro e w3 ⟨rfl, hB⟩
        have n0_ := Aside0.mk (below_step HB.out hB)
        have PA := Aside0.mk (Kd.R_below OA.out hB)
        have PB := Aside0.mk (Kd.R_below OB.out hB)
        clear HB hB OA OB
        have HB := n0_
        clear n0_
        go_wp2_with (first | ((with_reducible refine gate_builtin (b := .append) (xs := #[.tmp 66, .tmp 67]) rfl ?_); at_builtin; refine Kd.R_append_rows k34 (w0 := w) w.heap.size rfl (.tmp 66) (.tmp 67) 23 34 (.agg #[(.int .i64 0), (.int .u16 0), (.bool false), (.bool false), (.bool false), (.bool false), (.bool false), (.bool false), (.bool false), (.int .u8 0)]) 24 rfl Tryd.underlying23 info34 rfl (by decide) (by omega) (.slice none 0 0) ([] : List (S34)) a _ _ _ (fun k_ => some k_ ≠ (.slice Aa a.length ca : Value).ownBlock ∧ some k_ ≠ (vb : Value).ownBlock) (fun _ => False) rfl rfl ?aO ?aR (fun _ _ h => h) (fun _ h => h.elim) ?aF ?aB ?aS ?aL ?_; (case aR => exact (Kd.R_reads' PA.out).2.2); (case aB => exact HB.out); (case aF => exact (fun k_ hk => ⟨Kd.fresh' (Kd.R_lt PA.out) k_ hk, Kd.fresh' (Kd.R_lt PB.out) k_ hk⟩)); (case aO => exact (Kd.R_nil _ _ _ _ (fun k_ => some k_ ≠ (.slice Aa a.length ca : Value).ownBlock ∧ some k_ ≠ (vb : Value).ownBlock))); (case aS => exact HB.out.size); (case aL => have := LA.out; simp; omega); intro v371 w4 ho hb hg hat; have n0_ := Aside0.mk (Kd.R_after (Kd.R_apart_nil PA.out) hg hat); have n1_ := Aside0.mk (Kd.R_after (Kd.R_apart_nil PB.out) hg hat); have n2_ := Aside0.mk hb; have n3_ := Aside0.mk ho; clear PA PB HB; have PA := n0_; have PB := n1_; have HB := n2_; have OV := n3_; clear n0_ n1_ n2_ n3_; clear ho hb hg hat; obtain ⟨Ab, cb, eb⟩ := Kd.R_slice PB.out; subst eb) | ((with_reducible refine gate_builtin (b := .append) (xs := #[.tmp 69, .tmp 70]) rfl ?_); at_builtin; refine Kd.R_append_rows k34 (w0 := w) w.heap.size rfl (.tmp 69) (.tmp 70) 23 34 (.agg #[(.int .i64 0), (.int .u16 0), (.bool false), (.bool false), (.bool false), (.bool false), (.bool false), (.bool false), (.bool false), (.int .u8 0)]) 24 rfl Tryd.underlying23 info34 rfl (by decide) (by omega) v371 ([] ++ a) b _ _ _ (fun k_ => some k_ ≠ (.slice Aa a.length ca : Value).ownBlock ∧ some k_ ≠ (.slice Ab b.length cb : Value).ownBlock) (fun _ => False) rfl rfl ?aO ?aR (fun _ _ h => h) (fun _ h => h.elim) ?aF ?aB ?aS ?aL ?_; (case aO => exact OV.out); (case aR => exact (Kd.R_reads' PB.out).2.2); (case aB => exact HB.out); (case aF => exact (fun k_ hk => ⟨Kd.fresh' (Kd.R_lt PA.out) k_ hk, Kd.fresh' (Kd.R_lt PB.out) k_ hk⟩)); (case aS => exact HB.out.size); (case aL => have := LA.out; have := LB.out; simp; omega); intro v374 w5 ho hb hg hat; have n2_ := Aside0.mk hb; have n3_ := Aside0.mk ho; clear PA PB HB OV; have HB := n2_; have OV : Aside0 (RW w5 w.heap.size v374 z) := ⟨by rw [← HZ.out]; exact Kd.R_mono n3_.out (fun _ _ => trivial)⟩; clear n2_ n3_; clear ho hb hg hat; obtain ⟨Av, cv, ev⟩ := Kd.R_slice OV.out; subst ev))
        (with_reducible refine (vesperlaw07_flat.calls 100000 Av cv z A c l true _ OV.out.c OV.out.le (Kd.C_below HR.out HB.out) HC.out H4.out).mono ?_)
        rintro e w6 ⟨rfl, hB⟩
        have n0_ := Aside0.mk (below_step HB.out hB)
        clear HB hB OV H2 H3 H4
        have HB := n0_
        clear n0_
        obtain ⟨m, m1, m2, m3, m4, m5, m6, m7, m8⟩ := SN.out
        have M1 := Aside0.mk m1
        have M2 := Aside0.mk m2
        have M4 := Aside0.mk m4
        have M5 := Aside0.mk m5
        have M6 := Aside0.mk m6
        have M7 := Aside0.mk m7
        have M8 := Aside0.mk m8
        have m3' : (m.length : Int) ≤ (l.length : Int) := by omega
        clear m1 m2 m3 m4 m5 m6 m7 m8 SN
        go_wp2_with fail
        (with_reducible refine (script_Normal.calls 100000 A c l m 0 _ (Kd.C_below HR.out HB.out) HC.out M1.out).mono ?_)
        rintro e w7 ⟨v15, rfl, ho, hB⟩
        have n0_ := Aside0.mk (below_step HB.out hB)
        have OM : Aside0 (RW w7 w.heap.size v15 m) := ⟨Kd.R_lower ho HB.out.size⟩
        clear HB hB ho
        have HB := n0_
        clear n0_
        obtain ⟨Am, cm, em⟩ := Kd.R_slice OM.out
        subst em
        go_wp2_with fail
        (with_reducible refine (vesperlaw07_flat.calls 100000 Am cm m A c l true _ OM.out.c OM.out.le (Kd.C_below HR.out HB.out) HC.out M2.out).mono ?_)
        rintro e w8 ⟨rfl, hB⟩
        have n0_ := Aside0.mk (below_step HB.out hB)
        have n1_ : Aside0 (RW w8 w.heap.size (.slice Am m.length cm) m) := ⟨Kd.R_below OM.out hB⟩
        clear HB hB OM
        have HB := n0_
        have OM := n1_
        clear n0_ n1_
        go_wp2_with fail
        go_loopw [17] (fun i wr => ∃ x : Int, 1 ≤ x ∧ x ≤ (m.length : Int) + 1 ∧ i = .int .i64 x ∧ Aside0 (RW wr w.heap.size (.slice Am m.length cm) m) ∧ Aside0 (Below w.heap.size w wr)) (fun i _ => m.length + 1 - (RowKit.intOf i).toNat)
        case atStart => exact ⟨1, by omega, by omega, rfl, OM, HB⟩
        case round =>
          clear OM HB
          obtain ⟨x, hx1, hx2, rfl, OM, HB⟩ := hrel
          have ml : m.length ≤ 4096 := M4.out
          by_cases hlt : x < (m.length : Int)
          · obtain ⟨s, hs⟩ : ∃ s, rd_T34 m (x - 1) = s := ⟨_, rfl⟩
            obtain ⟨t, ht⟩ : ∃ t, rd_T34 m x = t := ⟨_, rfl⟩
            have hfull : alike s t = true → s.f0 = 1048576 := by
              intro ha
              have e1 := rd_get m (x - 1) (by omega) (by omega)
              have e2 := rd_get m x (by omega) (by omega)
              have hj : (x - 1).toNat + 1 < m.length := by omega
              have e3 : m[x.toNat] = m[(x - 1).toNat + 1] := by congr 1; omega
              rw [e3, ht] at e2
              rw [hs] at e1
              rw [e1, e2] at ha
              rw [e1]
              exact Nrm.at m (x - 1).toNat hj M6.out ha
            have hx3 : 0 ≤ x - 1 := by omega
            have hx4 : x - 1 < (m.length : Int) := by omega
            have hx5 : 0 ≤ x := by omega
            cases Am with
            | none =>
              exfalso
              obtain ⟨ad, e, _⟩ := OM.out.c.2.2 (by omega)
              cases e
            | some ad =>
              obtain ⟨q0, q1, q2, q3, q4, q5, q6, q7, q8, q9⟩ := cells_at OM.out.c (Below.refl _ _) (x - 1) hx3 hx4 s hs
              have ct := fun o => cells_at OM.out.c (below_alloc (Below.refl _ _) o) x hx5 hlt t ht
              have t0 := fun o => (ct o).1
              have t1 := fun o => (ct o).2.1
              have t2 := fun o => (ct o).2.2.1
              have t3 := fun o => (ct o).2.2.2.1
              have t4 := fun o => (ct o).2.2.2.2.1
              have t5 := fun o => (ct o).2.2.2.2.2.1
              have t6 := fun o => (ct o).2.2.2.2.2.2.1
              have t7 := fun o => (ct o).2.2.2.2.2.2.2.1
              have t8 := fun o => (ct o).2.2.2.2.2.2.2.2.1
              have t9 := fun o => (ct o).2.2.2.2.2.2.2.2.2
              have u0 := fun o o' => (cells_at OM.out.c (below_alloc (below_alloc (Below.refl _ _) o) o') (x - 1) hx3 hx4 s hs).1
              clear ct hs ht
              have e1 : (x - 1).toNat = x.toNat - 1 := by omega
              rw [e1] at q0 q1 q2 q3 q4 q5 q6 q7 q8 q9
              simp only [e1] at u0
              clear e1
              have hlt' : decide (x < (m.length : Int)) = true := decide_eq_true hlt
              by_cases ca : alike s t = true
              · have hf := hfull ca
                have hf1 : (s.f0 != 1048576) = false := bne_eq_false_iff_eq.mpr hf
                have hf2 : (s.f0 == 1048576) = true := beq_iff_eq.mpr hf
                have hc : (s.f1 == t.f1 && (s.f2 == t.f2 && (s.f3 == t.f3 && (s.f4 == t.f4 && (s.f5 == t.f5 && (s.f6 == t.f6 && (s.f7 == t.f7 && (s.f8 == t.f8 && s.f9 == t.f9)))))))) = true := ca
                clear hf hfull ca
                go_wp2
                all_goals
                  clear q0 q1 q2 q3 q4 q5 q6 q7 q8 q9 t0 t1 t2 t3 t4 t5 t6 t7 t8 t9 u0 hc hlt'
                  go_roundw
                  case rel => exact ⟨x + 1, by omega, by omega, by go_num, ⟨Kd.R_below OM.out (below_alloc (below_alloc (Below.refl _ _) _) _)⟩, ⟨below_alloc (below_alloc HB.out _) _⟩⟩
                  case measure => simp [RowKit.intOf]; omega
              · have hc : (s.f1 == t.f1 && (s.f2 == t.f2 && (s.f3 == t.f3 && (s.f4 == t.f4 && (s.f5 == t.f5 && (s.f6 == t.f6 && (s.f7 == t.f7 && (s.f8 == t.f8 && s.f9 == t.f9)))))))) = false := by simpa only [alike, Bool.not_eq_true] using ca
                clear hfull ca
                go_wp2
                all_goals
                  clear q0 q1 q2 q3 q4 q5 q6 q7 q8 q9 t0 t1 t2 t3 t4 t5 t6 t7 t8 t9 u0 hc hlt'
                  go_roundw
                  case rel => exact ⟨x + 1, by omega, by omega, by go_num, ⟨Kd.R_below OM.out (below_alloc (below_alloc (Below.refl _ _) _) _)⟩, ⟨below_alloc (below_alloc HB.out _) _⟩⟩
                  case measure => simp [RowKit.intOf]; omega
          · have hge : decide (x < (m.length : Int)) = false := decide_eq_false hlt
            go_wp2_with fail
            (with_reducible refine (script_Normal.calls 100000 Am cm m m 0 _ OM.out.c OM.out.le M5.out).mono ?_)
            rintro e w9 ⟨v20, rfl, ho, hB⟩
            have n0_ := Aside0.mk (below_step HB.out hB)
            have n1_ : Aside0 (RW w9 w.heap.size (.slice Am m.length cm) m) := ⟨Kd.R_below OM.out hB⟩
            have OG : Aside0 (RW w9 w.heap.size v20 m) := ⟨Kd.R_lower ho HB.out.size⟩
            clear HB hB OM ho
            have HB := n0_
            have OM := n1_
            clear n0_ n1_
            obtain ⟨Ag, cg, eg⟩ := Kd.R_slice OG.out
            subst eg
            by_cases hoe : (cyclesR o).2 = 0
            · obtain ⟨q, k1, k2, k3⟩ := SO.out m o M6.out M7.out M4.out hoe
              obtain ⟨b2, hb2⟩ : ∃ b2 : Bool, decide (cyc o = cyc l) = b2 := ⟨_, rfl⟩
              rw [hb2] at k2 k3
              have K1 := Aside0.mk k1
              have K2 := Aside0.mk k2
              have K3 := Aside0.mk k3
              clear k1 k2 k3 hb2 hoe
              go_wp2_with fail
              (with_reducible refine (script_Normal.calls 100000 A2 c2 o q 0 _ (Kd.C_below HR2.out HB.out) HC2.out K1.out).mono ?_)
              rintro e w10 ⟨v22, rfl, ho, hB⟩
              have n0_ := Aside0.mk (below_step HB.out hB)
              have n1_ : Aside0 (RW w10 w.heap.size (.slice Am m.length cm) m) := ⟨Kd.R_below OM.out hB⟩
              have n2_ : Aside0 (RW w10 w.heap.size (.slice Ag m.length cg) m) := ⟨Kd.R_below OG.out hB⟩
              have OQ : Aside0 (RW w10 w.heap.size v22 q) := ⟨Kd.R_lower ho HB.out.size⟩
              clear HB hB OM OG ho
              have HB := n0_
              have OM := n1_
              have OG := n2_
              clear n0_ n1_ n2_
              obtain ⟨Aq, cq, eq⟩ := Kd.R_slice OQ.out
              subst eq
              go_wp2_with fail
              (with_reducible refine (vesperref07_Same.calls 100000 Ag cg m Am cm m true _ OG.out.c OG.out.le OM.out.c OM.out.le M8.out).mono ?_)
              rintro e w11 ⟨rfl, ⟨⟨nd, rfl⟩⟩⟩
              go_wp2_with fail
              (with_reducible refine (vesperref07_Same.calls 100000 Aq cq q Am cm m b2 _ (Kd.C_drewN OQ.out.c _) OQ.out.le (Kd.C_drewN OM.out.c _) OM.out.le K2.out).mono ?_)
              rintro e w12 ⟨rfl, hd⟩
              have n0_ := Aside0.mk (below_step (pw_below_drewN HB.out _) hd.below)
              clear HB hd OQ OM OG
              have HB := n0_
              clear n0_
              go_wp2_with fail
              (with_reducible refine (vesperlaw07_flat.calls 100000 A2 c2 o A c l b2 _ (Kd.C_below HR2.out HB.out) HC2.out (Kd.C_below HR.out HB.out) HC.out K3.out).mono ?_)
              rintro e w13 ⟨rfl, hB⟩
              have n0_ := Aside0.mk (below_step HB.out hB)
              clear HB hB
              have HB := n0_
              clear n0_
              go_wp2_with fail
              (with_reducible refine (vesperlaw07_awake.calls 40 true _ (awake_ok 40 (Nat.le_refl _)) (GOk.below HG.out HB.out)).mono ?_)
              rintro e w14 ⟨rfl, hb6⟩
              have B6 := Aside0.mk (below_step HB.out hb6)
              clear hb6
              go_wp2
              go_ret
              exact ⟨rfl, B6.out⟩
            · obtain ⟨x, hx⟩ : ∃ x, (cyclesR o).2 = x := ⟨_, rfl⟩
              have k1 := normal_bad o hoe 100000 (by decide)
              rw [hx] at k1 hoe
              have K1 := Aside0.mk k1
              have hxb : (x != 0) = true := bne_iff_ne.mpr hoe
              clear k1 hx hoe
              go_wp2_with fail
              (with_reducible refine (script_Normal.calls 100000 A2 c2 o [] x _ (Kd.C_below HR2.out HB.out) HC2.out K1.out).mono ?_)
              rintro e w10 ⟨v22, rfl, ho, hB⟩
              have n0_ := Aside0.mk (below_step HB.out hB)
              have n1_ : Aside0 (RW w10 w.heap.size (.slice Am m.length cm) m) := ⟨Kd.R_below OM.out hB⟩
              have n2_ : Aside0 (RW w10 w.heap.size (.slice Ag m.length cg) m) := ⟨Kd.R_below OG.out hB⟩
              clear HB hB OM OG ho
              have HB := n0_
              have OM := n1_
              have OG := n2_
              clear n0_ n1_ n2_
              go_wp2_with fail
              (with_reducible refine (vesperref07_Same.calls 100000 Ag cg m Am cm m true _ OG.out.c OG.out.le OM.out.c OM.out.le M8.out).mono ?_)
              rintro e w11 ⟨rfl, ⟨⟨nd, rfl⟩⟩⟩
              have n0_ := Aside0.mk (pw_below_drewN HB.out nd)
              clear HB OM OG
              have HB := n0_
              clear n0_
              go_wp2_with fail
              (with_reducible refine (vesperlaw07_awake.calls 40 true _ (awake_ok 40 (Nat.le_refl _)) (GOk.below HG.out HB.out)).mono ?_)
              rintro e w14 ⟨rfl, hb6⟩
              have B6 := Aside0.mk (below_step HB.out hb6)
              clear hb6
              go_wp2
              go_ret
              exact ⟨rfl, B6.out⟩
  · have he' := cyclesR_bad he
    obtain ⟨x, hx⟩ : ∃ x, (cyclesR l).2 = x := ⟨_, rfl⟩
    rw [he', hx] at hcy
    rw [hx] at he
    have H1 := Aside0.mk hcy
    clear hcy he' hx
    have hxb : (x != 0) = true := bne_iff_ne.mpr he
    clear he
    go_enter Tryd.func11, Tryd.ntmps11
    go_wp2_with fail
    (with_reducible refine (script_Cycles.calls 100000 A c l 0 x _ HR.out HC.out H1.out).mono ?_)
    rintro e w1 ⟨rfl, hb1⟩
    have B1 := Aside0.mk hb1
    clear hb1
    go_wp2_with fail
    (with_reducible refine (vesperlaw07_awake.calls 40 true _ (awake_ok 40 (Nat.le_refl _)) (GOk.below HG.out B1.out)).mono ?_)
    rintro e w6 ⟨rfl, hb6⟩
    have B6 := Aside0.mk (below_step B1.out hb6)
    clear hb6
    go_wp2
    go_ret
    exact ⟨rfl, B6.out⟩
end Go.Proofs.YtdjffafcmomalaaDoor.SameW
