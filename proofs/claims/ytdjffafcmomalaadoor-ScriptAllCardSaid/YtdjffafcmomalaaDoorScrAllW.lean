/- The law vesperlaw07.ScriptAll, walked: it answers true. -/
import Derived.Test.YtdjffafcmomalaaDoorScrAllY
import Derived.Test.YtdjffafcmomalaaDoorPScrxA
import Derived.WalkSpells
import Derived.Laws.EntriesVeiled
import Derived.BigFrame
set_option linter.unusedVariables false
set_option linter.unusedSimpArgs false
namespace Go.Proofs.YtdjffafcmomalaaDoor.All
open Go Go.RowKit
open Go.Proofs.YtdjffafcmomalaaDoorW.PrintWords Go.Proofs.YtdjffafcmomalaaDoor.PScr Go.Proofs.YtdjffafcmomalaaDoor.Scr Go.Proofs.YtdjffafcmomalaaDoor.Lent Go.Proofs.YtdjffafcmomalaaDoor.Own

set_option maxRecDepth 100000 in
set_option maxHeartbeats 4000000 in
theorem all_calls2 (ad : Addr) (c : Nat) (l : List S34) (w : World) (hr : Kd.C k34 w (some ad) l.length l) (hc : l.length ≤ c) :
    Calls Tryd.prog 31 #[.slice (some ad) l.length c] w fun e w' => ∃ b A1 c1, w.heap.size ≤ b ∧ e = .returned (.func (Fn.func 49) #[] #[.pointer (some ⟨b, 0, none⟩)]) ∧ w'.heap[b]? = some (.cells #[.slice A1 (ownL l).length c1] 23 (0, 0)) ∧ RW w' w.heap.size (.slice A1 (ownL l).length c1) (ownL l) ∧ Below w.heap.size w w' := by
  have HR := Aside0.mk hr
  have h1 := check_f 5000 l (Nat.le_refl _)
  by_cases hok : (cyclesR l).2 = 0
  · have hown : ownL l = l := by unfold ownL; rw [if_pos hok]
    rw [hok] at h1
    have H1 := Aside0.mk h1
    have HO := Aside0.mk hown
    have hl := (cyclesR_ok hok).1
    clear hr h1 hok hown
    go_enter Tryd.func31, Tryd.ntmps31
    go_wp2_with fail
    (with_reducible refine (script_Check.calls 5000 (some ad) c l 0 _ HR.out hc H1.out).mono ?_)
    rintro e w1 ⟨rfl, hb1⟩
    have B1 := Aside0.mk hb1
    clear hb1
    go_wp2_with fail
    (with_reducible refine (clone_some ad c l _ (Kd.C_below HR.out B1.out) hc (by omega)).mono ?_)
    rintro e w2 ⟨v, rfl, hv, hb2⟩
    have O1 := Aside0.mk hv
    have B2 := Aside0.mk (below_step B1.out hb2)
    clear hv hb2
    obtain ⟨Ao, co, eo⟩ := Own.RW.sl O1.out
    subst eo
    go_wp2
    go_ret
    refine ⟨_, Ao, co, B2.out.size, rfl, ?_⟩
    rw [HO.out]
    exact ⟨heap_alloc_new w2 _, Own.RW.below (Kd.R_lower O1.out B1.out.size) (below_alloc (Below.refl _ _) _), below_alloc B2.out _⟩
  · obtain ⟨x, hx⟩ : ∃ x, (cyclesR l).2 = x := ⟨_, rfl⟩
    have hown : ownL l = [] := by unfold ownL; rw [if_neg hok]
    rw [hx] at h1 hok
    have H1 := Aside0.mk h1
    have HO := Aside0.mk hown
    have hxb : (x != 0) = true := bne_iff_ne.mpr hok
    clear hr h1 hok hx hown
    go_enter Tryd.func31, Tryd.ntmps31
    go_wp2_with fail
    (with_reducible refine (script_Check.calls 5000 (some ad) c l x _ HR.out hc H1.out).mono ?_)
    rintro e w1 ⟨rfl, hb1⟩
    have B1 := Aside0.mk hb1
    clear hb1
    go_wp2_with fail
    (with_reducible refine (clone_nil _).mono ?_)
    rintro e w2 ⟨rfl, rfl⟩
    go_wp2
    go_ret
    refine ⟨_, none, 0, B1.out.size, rfl, ?_⟩
    rw [HO.out]
    exact ⟨heap_alloc_new w1 _, Kd.R_nil _ _ _ _ _, below_alloc B1.out _⟩

/-- Boxes: what lies at some blocks. -/
def Bx (L : List (Nat × Obj)) (w : World) : Prop := ∀ p, p ∈ L → w.heap[p.1]? = some p.2
theorem Bx.nil (w : World) : Bx [] w := fun p h => by simp at h
theorem Bx.cons {L : List (Nat × Obj)} {w : World} (h : Bx L w) {k : Nat} {o : Obj} (hk : w.heap[k]? = some o) : Bx ((k, o) :: L) w := fun p hp => by
  rcases List.mem_cons.1 hp with e | e
  · subst e; exact hk
  · exact h p e
theorem Bx.below {L : List (Nat × Obj)} {w w1 : World} (h : Bx L w) (hb : Below w.heap.size w w1) : Bx L w1 := fun p hp => (hb.block _ (Array.getElem?_eq_some_iff.1 (h p hp)).1).trans (h p hp)
theorem Bx.lt {L : List (Nat × Obj)} {w : World} (h : Bx L w) (p : Nat × Obj) (hp : p ∈ L) : p.1 < w.heap.size := (Array.getElem?_eq_some_iff.1 (h p hp)).1
theorem Bx.grown {L : List (Nat × Obj)} {w w1 : World} {g : Nat} (h : Bx L w) (hg : w.grownBy w1 (some g)) (hne : ∀ p, p ∈ L → p.1 ≠ g) : Bx L w1 := fun p hp =>
  (hg.block p.1 (h.lt p hp) (fun e => hne p hp (by cases e; rfl))).trans (h p hp)
theorem Bx.alloc {L : List (Nat × Obj)} {w : World} (h : Bx L w) (cs : Array Value) (t : TypeId) : Bx ((w.heap.size, .cells cs t (0, 0)) :: L) (w.alloc (.cells cs t)) := (h.below (below_alloc (Below.refl _ _) _)).cons (heap_alloc_new w _)
theorem Bx.head {p : Nat × Obj} {L : List (Nat × Obj)} {w : World} (h : Bx (p :: L) w) : w.heap[p.1]? = some p.2 := h p (List.mem_cons_self ..)
theorem Bx.tail {p : Nat × Obj} {L : List (Nat × Obj)} {w : World} (h : Bx (p :: L) w) : Bx L w := fun q hq => h q (List.mem_cons_of_mem _ hq)
theorem allN_le (l : List S34) : allN l ≤ 4294967296 := by
  unfold allN ownL
  split
  · rename_i h
    obtain ⟨g1, g2, _⟩ := cyclesR_ok h
    have := cyc_le l g2
    omega
  · simp [cyc]
theorem own_ok (l : List S34) : (ownL l).all okC = true ∧ (ownL l).length ≤ 4096 := by
  unfold ownL
  split
  · rename_i h
    obtain ⟨g1, g2, _⟩ := cyclesR_ok h
    exact ⟨g2, g1⟩
  · exact ⟨rfl, Nat.zero_le _⟩
theorem run_eql_fn (w : World) (b : Nat) : (binOp .eql 50 (.func (Fn.func 49) #[] #[.pointer (some ⟨b, 0, none⟩)]) .nilFunc).run Tryd.prog w = .ok (.bool false) w := by kernel_rfl
theorem bits_range10 (x : Int) : 0 ≤ Go.bits .and .i64 x 1023 ∧ Go.bits .and .i64 x 1023 ≤ 1023 := by
  unfold Go.bits
  simp only
  have h : (BitVec.ofInt IntKind.i64.bits x &&& BitVec.ofInt IntKind.i64.bits 1023).toNat ≤ 1023 := by
    rw [BitVec.toNat_and]
    exact Nat.le_trans Nat.and_le_right (by decide)
  rw [IntKind.wrap_i64]
  omega
theorem allN_of {l : List S34} {n f : Int} (h : cyclesR l = (n, f)) : (allN l : Int) = if f = 0 then n else 0 := by
  have hf : (cyclesR l).2 = f := by rw [h]
  by_cases h0 : f = 0
  · rw [if_pos h0]
    subst h0
    obtain ⟨g1, g2, g3, g4⟩ := cyclesR_ok hf
    rw [h] at g4
    unfold allN ownL
    rw [if_pos hf, cyc_len l g2]
    exact (congrArg Prod.fst g4).symm
  · rw [if_neg h0]
    unfold allN ownL
    rw [if_neg (by rw [hf]; exact h0)]
    rfl
theorem awake_all (k : Nat) (h : 40 ≤ k) : vesperlaw07_awake.f k = some true :=
  at_rounds vesperlaw07_awake.mono h (by decide +kernel)
theorem keepA {w w1 : World} {b g : Nat} {v : Value} {l : List S34} (h : RW w b v l) (hg : w.grownBy w1 (some g)) (hne : v.ownBlock ≠ some g) : RW w1 b v l :=
  Kd.R_grown2 h rfl hg (fun k hk => by cases hk; exact fun e => hne e.symm)

set_option maxRecDepth 100000 in
set_option maxHeartbeats 8000000 in
theorem all_law (A : Option Addr) (c : Nat) (l : List S34) (early inner : Int) (w : World) (hr : Kd.C k34 w A l.length l) (hc : l.length ≤ c) (hG : GOk w) :
    Calls Tryd.prog 10 #[.slice A l.length c, .int .i64 early, .int .i64 inner] w fun e w' => e = .returned (.bool true) ∧ Below w.heap.size w w' := by
  have HR := Aside0.mk hr
  have HC := Aside0.mk hc
  have HG := Aside0.mk hG
  clear hr hc hG
  by_cases hbig : 2147483647 < l.length
  · go_enter Tryd.func10, Tryd.ntmps10
    go_wp2
    go_ret
    exact ⟨rfl, below_alloc (below_alloc (Below.refl _ _) _) _⟩
  · obtain ⟨⟨n, f⟩, hcy⟩ : ∃ q, cyclesR l = q := ⟨_, rfl⟩
    have h3 := rcycles_f 5000 l (Nat.le_refl _)
    rw [hcy] at h3
    have H3 := Aside0.mk h3
    have HL := Aside0.mk (show l.length ≤ 100000000000 by omega)
    clear h3
    go_enter Tryd.func10, Tryd.ntmps10
    go_wp2_with fail
    have hb0 : Below w.heap.size w ((w.alloc (.cells #[.slice A l.length c] 23)).alloc (.cells #[.int .i64 inner] 3)) := below_alloc (below_alloc (Below.refl _ _) _) _
    have hx0 : Bx [(w.heap.size + 1, .cells #[.int .i64 inner] 3 (0, 0)), (w.heap.size, .cells #[.slice A l.length c] 23 (0, 0))] ((w.alloc (.cells #[.slice A l.length c] 23)).alloc (.cells #[.int .i64 inner] 3)) := by
      have h := ((Bx.nil w).alloc #[.slice A l.length c] 23).alloc #[.int .i64 inner] 3
      simpa using h
    generalize ((w.alloc (.cells #[.slice A l.length c] 23)).alloc (.cells #[.int .i64 inner] 3)) = w1 at hb0 hx0 ⊢
    have B1 := Aside0.mk hb0
    have X1 := Aside0.mk hx0
    have HM := Aside0.mk (allN_of hcy)
    clear hb0 hx0 hcy
    (with_reducible refine (vesperref07_Cycles.calls 5000 A c l n f _ (Kd.C_below HR.out B1.out) HC.out H3.out).mono ?_)
    rintro e w2 ⟨rfl, hd⟩
    have B2 := Aside0.mk (below_step B1.out hd.below)
    have X2 := Aside0.mk (X1.out.below hd.below)
    clear hd X1 B1
    have hl2 : w.heap.size + 1 < w2.heap.size := X2.out.lt _ (List.mem_cons_self ..)
    by_cases hf : f = 0
    have hfb : (f != 0) = false := by rw [hf]; rfl
    have hm2 : (w2.alloc (.cells #[.int .i64 n] 3)) = (w2.alloc (.cells #[.int .i64 (allN l : Int)] 3)) := by rw [HM.out, if_pos hf]
    have HM2 := Aside0.mk hm2
    clear hf hm2
    go_upto_region 6 with fail
    rw [HM2.out]
    rotate_left
    have hfb : (f != 0) = true := bne_iff_ne.mpr hf
    have hm2 : (w2.alloc (.cells #[.int .i64 0] 3)) = (w2.alloc (.cells #[.int .i64 (allN l : Int)] 3)) := by rw [HM.out, if_neg hf]
    have HM2 := Aside0.mk hm2
    clear hf hm2
    go_upto_region 6 with fail
    rw [HM2.out]
    all_goals
      have X3 := Aside0.mk (X2.out.alloc #[.int .i64 (allN l : Int)] 3)
      have B3 := Aside0.mk (below_alloc B2.out (.cells #[.int .i64 (allN l : Int)] 3))
      have hl3 : w2.heap.size < (w2.alloc (.cells #[.int .i64 (allN l : Int)] 3)).heap.size := by simp
      generalize (w2.alloc (.cells #[.int .i64 (allN l : Int)] 3)) = w3 at X3 B3 hl3 ⊢
      clear X2 B2 hfb HM2
      have q1 := cell_of_one X3.out.tail.tail.head
      go_wp2_with fail
      (with_reducible refine (Lent.lent_calls A c l _ (Kd.C_below HR.out B3.out) HC.out HL.out).mono ?_)
      rintro e w4 ⟨g, hg, rfl, hx4, hb4⟩
      have X4 := Aside0.mk (X3.out.below hb4)
      have B4 := Aside0.mk (below_step B3.out hb4)
      have R4 := Aside0.mk hx4
      have C4 := Aside0.mk (lent_C hx4)
      have hl4 : g < w4.heap.size := Kd.R_lt hx4 g rfl
      clear hb4 hx4 X3 q1
      go_wp2_with fail
      (with_reducible refine (all_calls2 ⟨g, 0, none⟩ (l.length + 1) l _ C4.out (Nat.le_succ _)).mono ?_)
      rintro e w5 ⟨b, A1, c1, hgb, rfl, hbox, hrow, hb5⟩
      have X5 := Aside0.mk ((X4.out.below hb5).cons hbox)
      have B5 := Aside0.mk (below_step B4.out hb5)
      have R5 : Aside0 (RW w5 w3.heap.size (.slice (some ⟨g, 0, none⟩) (l.length + 1) (l.length + 1)) (l ++ [markS (-77)])) := ⟨Kd.R_below R4.out hb5⟩
      have O5 := Aside0.mk hrow
      have hl5 : b < w5.heap.size := (Array.getElem?_eq_some_iff.1 hbox).1
      clear hb5 hbox hrow X4 R4 C4
      go_upto_region 8 with fail
      have X6 := Aside0.mk (X5.out.alloc #[.func (Fn.func 49) #[] #[.pointer (some ⟨b, 0, none⟩)]] 50)
      have B6 := Aside0.mk (below_alloc B5.out (.cells #[.func (Fn.func 49) #[] #[.pointer (some ⟨b, 0, none⟩)]] 50))
      have hb6 := below_alloc (Below.refl w5.heap.size w5) (.cells #[.func (Fn.func 49) #[] #[.pointer (some ⟨b, 0, none⟩)]] 50)
      have R6 : Aside0 (RW (w5.alloc (.cells #[.func (Fn.func 49) #[] #[.pointer (some ⟨b, 0, none⟩)]] 50)) w3.heap.size (.slice (some ⟨g, 0, none⟩) (l.length + 1) (l.length + 1)) (l ++ [markS (-77)])) := ⟨Kd.R_below R5.out hb6⟩
      have O6 := Aside0.mk (Own.RW.below O5.out hb6)
      have hl6 : w5.heap.size < (w5.alloc (.cells #[.func (Fn.func 49) #[] #[.pointer (some ⟨b, 0, none⟩)]] 50)).heap.size := by simp
      generalize (w5.alloc (.cells #[.func (Fn.func 49) #[] #[.pointer (some ⟨b, 0, none⟩)]] 50)) = w6 at X6 B6 hb6 R6 O6 hl6 ⊢
      clear X5 B5 R5 O5 hb6
      have q1 := cell_of_one X6.out.tail.tail.tail.tail.head
      go_wp2_with fail
      (with_reducible refine (Lent.back_calls A c l g w3.heap.size _ (Kd.C_below HR.out B6.out) HC.out HL.out R6.out).mono ?_)
      rintro e w7 ⟨rfl, hg7⟩
      have B7 := Aside0.mk (B6.out.grown hg7 B6.out.size (fun k hk => by cases hk; exact Nat.le_trans B3.out.size hg))
      have X7 := Aside0.mk (X6.out.grown hg7 (fun p hp => by
        simp only [List.mem_cons, List.not_mem_nil, or_false] at hp
        rcases hp with rfl | rfl | rfl | rfl | rfl <;> simp only <;> omega))
      have O7 : Aside0 (RW w7 w4.heap.size (.slice A1 (ownL l).length c1) (ownL l)) := ⟨keepA O6.out hg7 (fun e => by have := Kd.R_base O6.out g e; omega)⟩
      clear hg7 X6 B6 R6 O6 q1
      have q1 := cell_of_one X7.out.head
      have hq := run_eql_fn w7 b
      have hz := bits_range10 early
      obtain ⟨z, hze⟩ : ∃ z, Go.bits .and .i64 early 1023 = z := ⟨_, rfl⟩
      rw [hze] at hz
      obtain ⟨hz0, hz1⟩ := hz
      go_upto_region 11 with fail
      obtain ⟨up, hup, hup1, hup3⟩ : ∃ up, 1 + z = up ∧ 1 ≤ up ∧ up ≤ 1024 := ⟨_, rfl, by omega, by omega⟩
      rw [hup]
      clear hup hz0 hz1
      have X8 := Aside0.mk (X7.out.alloc #[.int .i64 up] 3)
      have B8 := Aside0.mk (below_alloc B7.out (.cells #[.int .i64 up] 3))
      have hb8 := below_alloc (Below.refl w7.heap.size w7) (.cells #[.int .i64 up] 3)
      have O8 := Aside0.mk (Own.RW.below O7.out hb8)
      have hl8 : w7.heap.size < (w7.alloc (.cells #[.int .i64 up] 3)).heap.size := by simp
      have hl7 : w5.heap.size < w7.heap.size := X7.out.lt _ (List.mem_cons_self ..)
      generalize (w7.alloc (.cells #[.int .i64 up] 3)) = w8 at X8 B8 hb8 O8 hl8 ⊢
      clear X7 B7 O7 hb8 hq q1
      have P8 := Aside0.mk (show BoxAt b A1 c1 (ownL l) w8 from ⟨X8.out.tail.tail.head, Own.RW.c O8.out, Own.RW.le O8.out⟩)
      have q1 := cell_of_one X8.out.tail.tail.tail.tail.tail.head
      have q2 := cell_of_one X8.out.head
      have q3 := cell_of_one X8.out.tail.head
      go_wp2_with fail
      (with_reducible refine (seen_calls A c l up b A1 c1 _ (Kd.C_below HR.out B8.out) hup1 P8.out).mono ?_)
      rintro e w9 ⟨rfl, hb9⟩
      obtain ⟨av, hav⟩ : ∃ a, min up (allN l : Int) = a := ⟨_, rfl⟩
      rw [hav]
      have AV := Aside0.mk hav
      clear hav
      have X9 := Aside0.mk (X8.out.below hb9)
      have B9 := Aside0.mk (below_step B8.out hb9)
      have P9 := Aside0.mk (BoxAt.below P8.out hb9)
      have hl9 : w7.heap.size < w9.heap.size := X9.out.lt _ (List.mem_cons_self ..)
      clear hb9 X8 B8 O8 P8 q1 q2 q3
      have q1 := cell_of_one X9.out.tail.tail.tail.tail.tail.head
      have q2 := cell_of_one X9.out.tail.tail.tail.head
      have q3 := cell_of_one X9.out.tail.head
      have hnle : (allN l : Int) ≤ 4294967296 := by have := allN_le l; omega
      have hup2 : 1 ≤ (allN l : Int) + 1 := by omega
      go_wp2_with fail
      (with_reducible refine (seen_calls A c l ((allN l : Int) + 1) b A1 c1 _ (Kd.C_below HR.out B9.out) hup2 P9.out).mono ?_)
      rintro e w10 ⟨rfl, hb10⟩
      rw [show min ((allN l : Int) + 1) (allN l : Int) = (allN l : Int) by omega]
      have X10 := Aside0.mk (X9.out.below hb10)
      have B10 := Aside0.mk (below_step B9.out hb10)
      have P10 := Aside0.mk (BoxAt.below P9.out hb10)
      have hl10 : w7.heap.size < w10.heap.size := X10.out.lt _ (List.mem_cons_self ..)
      clear hb10 X9 B9 P9 q1 q2 q3
      go_upto_region 15 with fail
      have hb11 := below_alloc (below_alloc (Below.refl w10.heap.size w10) (.cells #[.int .i64 0] 3)) (.cells #[.bool true] 4)
      have X11 : Aside0 (Sev w.heap.size (w.heap.size + 1) w2.heap.size w5.heap.size w7.heap.size w10.heap.size A c l inner b up 0 true ((w10.alloc (.cells #[.int .i64 0] 3)).alloc (.cells #[.bool true] 4))) := ⟨by
        have h := (X10.out.alloc #[.int .i64 0] 3).alloc #[.bool true] 4
        have e : (w10.alloc (.cells #[.int .i64 0] 3)).heap.size = w10.heap.size + 1 := by simp
        rw [e] at h
        exact ⟨h.tail.tail.tail.tail.tail.tail.tail.head, h.tail.tail.tail.tail.tail.tail.head, h.tail.tail.tail.tail.tail.head, h.tail.tail.tail.head, h.tail.tail.head, h.tail.head, h.head⟩⟩
      have hl11 : w10.heap.size + 2 ≤ ((w10.alloc (.cells #[.int .i64 0] 3)).alloc (.cells #[.bool true] 4)).heap.size := by simp
      generalize ((w10.alloc (.cells #[.int .i64 0] 3)).alloc (.cells #[.bool true] 4)) = w11 at hb11 X11 hl11 ⊢
      have P11 := Aside0.mk (BoxAt.below P10.out hb11)
      have HB11 := Aside0.mk hb11
      have B11 := Aside0.mk (below_step B10.out hb11)
      clear hb11
      have q1 := cell_of_one X11.out.a_
      have HI := Aside0.mk (iter33 (.pointer (some ⟨w10.heap.size, 0, none⟩)) (.pointer (some ⟨w.heap.size + 1, 0, none⟩)) (.pointer (some ⟨w.heap.size, 0, none⟩)) (.pointer (some ⟨w7.heap.size, 0, none⟩)) (.pointer (some ⟨w5.heap.size, 0, none⟩)) (.pointer (some ⟨w2.heap.size, 0, none⟩)) (.pointer (some ⟨w10.heap.size + 1, 0, none⟩))
        b (w10.heap.size + 2) A1 c1 (ownL l) (AJ w.heap.size (w.heap.size + 1) w2.heap.size w5.heap.size w7.heap.size w10.heap.size A c l inner b up w10) (AF w.heap.size (w.heap.size + 1) w2.heap.size w5.heap.size w7.heap.size w10.heap.size A c l inner b up w10) w11 (own_ok l).1 (own_ok l).2
        ⟨X11.out, Nat.zero_le _, HB11.out⟩ (fun n w w' h hb => h.below hb) (fun n w' h => BoxAt.below P10.out h.bel) hl11
        (fun n w' s hj hs => all_step _ _ _ _ _ _ A c l inner b A1 c1 up w10 n w' s ⟨by omega, by omega, by omega, by omega, by omega⟩ (Nat.le_refl _) ⟨by omega, by omega⟩ (Kd.C_below HR.out B10.out) P10.out hj (List.getElem?_eq_some_iff.1 hs).1))
      go_wp2_with fail
      (with_reducible refine HI.out.mono ?_)
      rintro e w12 ⟨rfl, hjf, hk⟩
      obtain ⟨cv, hcv, hs12, hb12⟩ : ∃ cv : Int, cv = min 101 (allN l : Int) ∧ Sev w.heap.size (w.heap.size + 1) w2.heap.size w5.heap.size w7.heap.size w10.heap.size A c l inner b up cv true w12 ∧ Below w10.heap.size w10 w12 := by
        rcases hjf with hj | hf
        · exact ⟨((cyc (ownL l)).length : Int), by have := hj.le; unfold allN; omega, hj.sev, hj.bel⟩
        · exact ⟨101, by have := hf.le; omega, hf.sev, hf.bel⟩
      have CV := Aside0.mk hcv
      have S12 := Aside0.mk hs12
      have B12 := Aside0.mk (below_step B10.out hb12)
      clear hjf hk hcv hs12 hb12 HI q1 P11 X11 HB11 B11
      have q1 := cell_of_one S12.out.k_
      have q2 := cell_of_one S12.out.m_
      have q3 := cell_of_one S12.out.c_
      have q4 := cell_of_one S12.out.g_
      have hlt := X10.out.lt
      clear hlt
      rcases Decidable.em ((allN l : Int) < up) with hlu | hlu
      all_goals
        rcases Decidable.em ((allN l : Int) < 101) with hlv | hlv
      all_goals
        first
        | (obtain rfl : av = (allN l : Int) := by rw [← AV.out]; omega
           have hm1 : min up (allN l : Int) = (allN l : Int) := by omega)
        | (obtain rfl : up = av := by rw [← AV.out]; omega
           have hm1 : min up (allN l : Int) = up := by omega)
        first
        | (obtain rfl : cv = (allN l : Int) := by rw [CV.out]; omega
           have hm2 : min 101 (allN l : Int) = (allN l : Int) := by omega)
        | (obtain rfl : cv = 101 := by rw [CV.out]; omega
           have hm2 : min 101 (allN l : Int) = 101 := by omega)
        clear hlu hlv AV CV
        go_upto_region 16 with fail
        generalize (allN l : Int) = N at q2 q3 hnle hm1 hm2 ⊢
        go_wp2_with fail
        (with_reducible refine (vesperlaw07_awake.calls 40 true _ (awake_all 40 (Nat.le_refl _)) (GOk.below HG.out B12.out)).mono ?_)
        rintro e w13 ⟨rfl, hb13⟩
        have B13 := Aside0.mk (below_step B12.out hb13)
        clear hb13
        go_wp2
        go_ret
        exact ⟨rfl, B13.out⟩
end Go.Proofs.YtdjffafcmomalaaDoor.All
