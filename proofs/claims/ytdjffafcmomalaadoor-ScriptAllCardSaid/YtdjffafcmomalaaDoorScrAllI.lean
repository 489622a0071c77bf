/- script.All$1: an iterator called with a yield that is a closure: what holds behind it, by an invariant. -/
import Derived.Test.YtdjffafcmomalaaDoorScrAllC
import Derived.Test.YtdjffafcmomalaaDoorScrCyc
import Derived.WalkMore
set_option linter.unusedVariables false
set_option linter.unusedSimpArgs false
namespace Go.Proofs.YtdjffafcmomalaaDoor.All
open Go Go.RowKit
open Go.Proofs.YtdjffafcmomalaaDoorW.PrintWords Go.Proofs.YtdjffafcmomalaaDoor.PScr Go.Proofs.YtdjffafcmomalaaDoor.Scr Go.Proofs.YtdjffafcmomalaaDoor.Lent Go.Proofs.YtdjffafcmomalaaDoor.Own

/-- The blocks from b1 on stay, as far as they were there. -/
def Keep (b1 : Nat) (w w' : World) : Prop := w.heap.size ≤ w'.heap.size ∧ ∀ k, b1 ≤ k → k < w.heap.size → w'.heap[k]? = w.heap[k]?
theorem Keep.refl (b1 : Nat) (w : World) : Keep b1 w w := ⟨Nat.le_refl _, fun _ _ _ => rfl⟩
theorem Keep.trans {b1 : Nat} {w w1 w2 : World} (h : Keep b1 w w1) (h' : Keep b1 w1 w2) : Keep b1 w w2 := ⟨Nat.le_trans h.1 h'.1, fun k h1 h2 => (h'.2 k h1 (Nat.lt_of_lt_of_le h2 h.1)).trans (h.2 k h1 h2)⟩
theorem Keep.below (b1 : Nat) {w w' : World} (h : Below w.heap.size w w') : Keep b1 w w' := ⟨h.size, fun k _ h2 => h.block k h2⟩
def BoxAt (b : Nat) (A : Option Addr) (c : Nat) (m : List S34) (w : World) : Prop := w.heap[b]? = some (.cells #[.slice A m.length c] 23 (0, 0)) ∧ Kd.C k34 w A m.length m ∧ m.length ≤ c
/-- What a yield leaves behind it. -/
def YPost (J : Nat → World → Prop) (F : World → Prop) (b1 n : Nat) (w : World) (e : Ending) (w' : World) : Prop := ∃ r : Bool, e = .returned (.bool r) ∧ (r = true → J (n + 1) w') ∧ (r = false → F w') ∧ Keep b1 w w'
theorem cells_at {w w1 : World} {ad : Addr} {n : Nat} {l : List S34} (h : Kd.C k34 w (some ad) n l) (hb : Below w.heap.size w w1) (i : Int) (h0 : 0 ≤ i) (h1 : i < (n : Int)) (s : S34) (hs : rd_T34 l i = s) :
    w1.cell? (ad.add (i.toNat * 10)) = some (.int .i64 s.f0) ∧ w1.cell? ⟨(ad.add (i.toNat * 10)).block, (ad.add (i.toNat * 10)).off + 1, none⟩ = some (.int .u16 s.f1) ∧ w1.cell? ⟨(ad.add (i.toNat * 10)).block, (ad.add (i.toNat * 10)).off + 2, none⟩ = some (.bool s.f2) ∧ w1.cell? ⟨(ad.add (i.toNat * 10)).block, (ad.add (i.toNat * 10)).off + 3, none⟩ = some (.bool s.f3) ∧ w1.cell? ⟨(ad.add (i.toNat * 10)).block, (ad.add (i.toNat * 10)).off + 4, none⟩ = some (.bool s.f4) ∧ w1.cell? ⟨(ad.add (i.toNat * 10)).block, (ad.add (i.toNat * 10)).off + 5, none⟩ = some (.bool s.f5) ∧ w1.cell? ⟨(ad.add (i.toNat * 10)).block, (ad.add (i.toNat * 10)).off + 6, none⟩ = some (.bool s.f6) ∧ w1.cell? ⟨(ad.add (i.toNat * 10)).block, (ad.add (i.toNat * 10)).off + 7, none⟩ = some (.bool s.f7) ∧ w1.cell? ⟨(ad.add (i.toNat * 10)).block, (ad.add (i.toNat * 10)).off + 8, none⟩ = some (.bool s.f8) ∧ w1.cell? ⟨(ad.add (i.toNat * 10)).block, (ad.add (i.toNat * 10)).off + 9, none⟩ = some (.int .u8 s.f9) := by
  obtain ⟨ad', e, q0, q1, q2, q3, q4, q5, q6, q7, q8, q9⟩ := at_T34 h i h0 h1
  cases e
  rw [hs] at q0 q1 q2 q3 q4 q5 q6 q7 q8 q9
  exact ⟨(hb.cell (World.block_lt_of_cell? w _ q0)).trans q0, (hb.cell (World.block_lt_of_cell? w _ q1)).trans q1, (hb.cell (World.block_lt_of_cell? w _ q2)).trans q2, (hb.cell (World.block_lt_of_cell? w _ q3)).trans q3, (hb.cell (World.block_lt_of_cell? w _ q4)).trans q4, (hb.cell (World.block_lt_of_cell? w _ q5)).trans q5, (hb.cell (World.block_lt_of_cell? w _ q6)).trans q6, (hb.cell (World.block_lt_of_cell? w _ q7)).trans q7, (hb.cell (World.block_lt_of_cell? w _ q8)).trans q8, (hb.cell (World.block_lt_of_cell? w _ q9)).trans q9⟩
theorem rd_get (m : List S34) (i : Int) (h0 : 0 ≤ i) (h : i.toNat < m.length) : rd_T34 m i = m[i.toNat] := by
  unfold rd_T34
  rw [List.getD_eq_getElem?_getD, List.getElem?_eq_getElem h]; rfl
theorem cyc_at (m : List S34) (k : Nat) (hk : k < m.length) (s : S34) (hs : m[k] = s) : cyc m = cyc (m.take k) ++ (List.replicate s.f0.toNat (withC s 0) ++ cyc (m.drop (k + 1))) := by
  conv => lhs; rw [← List.take_append_drop k m, cyc_append, List.drop_eq_getElem_cons hk, hs]
  rfl
theorem cyc_take (m : List S34) (k : Nat) (hk : k < m.length) (s : S34) (hs : m[k] = s) : cyc (m.take (k + 1)) = cyc (m.take k) ++ List.replicate s.f0.toNat (withC s 0) := by
  rw [List.take_succ_eq_append_getElem hk, cyc_append, hs]
  show cyc (m.take k) ++ (List.replicate s.f0.toNat (withC s 0) ++ []) = _
  rw [List.append_nil]
theorem cyc_le : ∀ (m : List S34), m.all okC = true → (cyc m).length ≤ m.length * 1048576
  | [], _ => by simp [cyc]
  | s :: m, h => by
    rw [List.all_cons, Bool.and_eq_true] at h
    have hs := okC_pos h.1
    have := cyc_le m h.2
    rw [cyc, List.length_append, List.length_replicate, List.length_cons]
    omega

set_option maxRecDepth 100000 in
set_option maxHeartbeats 8000000 in
theorem iter50 (p1 p2 p3 p4 p5 p6 : Value) (b b1 : Nat) (A : Option Addr) (c : Nat) (m : List S34) (J : Nat → World → Prop) (F : World → Prop) (w : World) (hm : m.all okC = true) (hml : m.length ≤ 4096)
    (h0 : J 0 w) (h1 : ∀ n w w', J n w → Below w.heap.size w w' → J n w') (h2 : ∀ n w, J n w → BoxAt b A c m w) (hb1 : b1 ≤ w.heap.size)
    (step : ∀ n w s, J n w → (cyc m)[n]? = some (withC s 0) → Calls Tryd.prog 50 #[.int .i64 (n : Int), .agg #[.int .i64 1, .int .u16 s.f1, .bool s.f2, .bool s.f3, .bool s.f4, .bool s.f5, .bool s.f6, .bool s.f7, .bool s.f8, .int .u8 s.f9], p1, p2, p3, p4, p5, p6] w (YPost J F b1 n w)) :
    Calls Tryd.prog 49 #[.func (Fn.func 50) #[] #[p1, p2, p3, p4, p5, p6], .pointer (some ⟨b, 0, none⟩)] w fun e w' => e = .returned (.tuple #[]) ∧ (J (cyc m).length w' ∨ F w') ∧ Keep b1 w w' := by
  have HJ := Aside0.mk h0
  have H1 := Aside0.mk h1
  have H2 := Aside0.mk h2
  have HS := Aside0.mk step
  have HM := Aside0.mk hm
  have KP := Aside0.mk (Keep.refl b1 w)
  have HB1 := Aside0.mk hb1
  have hcell := cell_of_one (h2 0 w h0).1
  clear h0 h1 h2 step hm hb1
  go_enter Tryd.func49, Tryd.ntmps49
  go_step3
  go_wp2_with fail
  go_step3
  go_wp2_with fail
  go_loopw [3, 5, 8, 14] (fun v3 _ v8 _ wr => ∃ k n : Nat, k ≤ m.length ∧ v8 = .int .i64 k ∧ v3 = .int .i64 n ∧ Aside0 (n = (cyc (m.take k)).length) ∧ Aside0 (J n wr) ∧ Aside0 (Keep b1 w wr)) (fun _ _ i _ _ => m.length - (RowKit.intOf i).toNat)
  case atStart => exact ⟨0, 0, Nat.zero_le _, rfl, rfl, ⟨rfl⟩, HJ, KP⟩
  case round =>
    clear HJ KP hcell
    obtain ⟨k, n, hk, rfl, rfl, HN, HJ, KP⟩ := hrel
    obtain ⟨wo, rfl⟩ : ∃ wo : World, wo = wr := ⟨_, rfl⟩
    by_cases hlt : k < m.length
    · obtain ⟨s, hs⟩ : ∃ s, m[k] = s := ⟨_, rfl⟩
      have hso := List.all_eq_true.1 HM.out s (by rw [← hs]; exact List.getElem_mem hlt)
      have hs1 := okC_pos hso
      have hbx := H2.out n wo HJ.out
      have hsp := cyc_at m k hlt s hs
      have HSP := Aside0.mk hsp
      have HSS := Aside0.mk hs
      cases A with
      | none =>
        exfalso
        obtain ⟨ad, e, _⟩ := hbx.2.1.2.2 (by omega)
        cases e
      | some ad =>
        obtain ⟨q0, q1, q2, q3, q4, q5, q6, q7, q8, q9⟩ := cells_at hbx.2.1 (Below.refl _ _) (k : Int) (by omega) (by omega) s (by rw [rd_get m k (by omega) (by simpa using hlt)]; simpa using hs)
        rw [Int.toNat_natCast] at q0 q1 q2 q3 q4 q5 q6 q7 q8 q9
        have k0 : (k : Int) < (m.length : Int) := by omega
        have hnb : n ≤ 4294967296 := by
          have := HN.out
          have h3 := cyc_le (m.take k) (List.all_eq_true.2 fun x hx => List.all_eq_true.1 HM.out x (List.mem_of_mem_take hx))
          rw [List.length_take] at h3
          omega
        have HJ2 := Aside0.mk (H1.out n wo _ HJ.out (below_alloc (Below.refl _ _) (.cells #[.int .i64 s.f0, .int .u16 s.f1, .bool s.f2, .bool s.f3, .bool s.f4, .bool s.f5, .bool s.f6, .bool s.f7, .bool s.f8, .int .u8 s.f9] 34)))
        have KP2 := Aside0.mk (KP.out.trans (Keep.below b1 (below_alloc (Below.refl wo.heap.size wo) (.cells #[.int .i64 s.f0, .int .u16 s.f1, .bool s.f2, .bool s.f3, .bool s.f4, .bool s.f5, .bool s.f6, .bool s.f7, .bool s.f8, .int .u8 s.f9] 34))))
        have BK0 := Aside0.mk (heap_alloc_new wo (.cells #[.int .i64 s.f0, .int .u16 s.f1, .bool s.f2, .bool s.f3, .bool s.f4, .bool s.f5, .bool s.f6, .bool s.f7, .bool s.f8, .int .u8 s.f9] 34))
        have GE := Aside0.mk (Nat.le_trans HB1.out KP.out.1)
        clear hbx hsp hs hso
        go_wp2_with fail
        go_loopw [3, 14] (fun v3 v14 wr => ∃ t q : Nat, (t : Int) ≤ s.f0 ∧ v14 = .int .i64 t ∧ v3 = .int .i64 q ∧ Aside0 (q = n + t) ∧ Aside0 (J q wr) ∧ Aside0 (Keep b1 w wr) ∧ Aside0 (wr.heap[wo.heap.size]? = some (.cells #[.int .i64 s.f0, .int .u16 s.f1, .bool s.f2, .bool s.f3, .bool s.f4, .bool s.f5, .bool s.f6, .bool s.f7, .bool s.f8, .int .u8 s.f9] 34 (0, 0)))) (fun _ i _ => s.f0.toNat - (RowKit.intOf i).toNat)
        case atStart => exact ⟨0, n, by omega, rfl, rfl, ⟨rfl⟩, HJ2, KP2, BK0⟩
        case round =>
          clear HJ2 KP2 BK0
          obtain ⟨t, q, ht, rfl, rfl, HQ, HJ2, KP2, BK⟩ := hrel
          have hqb : q ≤ 8589934592 := by have := HQ.out; omega
          have hblt : wo.heap.size < wr.heap.size := (Array.getElem?_eq_some_iff.1 BK.out).1
          by_cases htl : (t : Int) < s.f0
          · have x0 : wr.cell? ⟨wo.heap.size, 0, none⟩ = some (.int .i64 s.f0) := (blk_cell BK.out 0).trans rfl
            have x1 : wr.cell? ⟨wo.heap.size, 1, none⟩ = some (.int .u16 s.f1) := (blk_cell BK.out 1).trans rfl
            have x2 : wr.cell? ⟨wo.heap.size, 2, none⟩ = some (.bool s.f2) := (blk_cell BK.out 2).trans rfl
            have x3 : wr.cell? ⟨wo.heap.size, 3, none⟩ = some (.bool s.f3) := (blk_cell BK.out 3).trans rfl
            have x4 : wr.cell? ⟨wo.heap.size, 4, none⟩ = some (.bool s.f4) := (blk_cell BK.out 4).trans rfl
            have x5 : wr.cell? ⟨wo.heap.size, 5, none⟩ = some (.bool s.f5) := (blk_cell BK.out 5).trans rfl
            have x6 : wr.cell? ⟨wo.heap.size, 6, none⟩ = some (.bool s.f6) := (blk_cell BK.out 6).trans rfl
            have x7 : wr.cell? ⟨wo.heap.size, 7, none⟩ = some (.bool s.f7) := (blk_cell BK.out 7).trans rfl
            have x8 : wr.cell? ⟨wo.heap.size, 8, none⟩ = some (.bool s.f8) := (blk_cell BK.out 8).trans rfl
            have x9 : wr.cell? ⟨wo.heap.size, 9, none⟩ = some (.int .u8 s.f9) := (blk_cell BK.out 9).trans rfl
            have hcyc : (cyc m)[q]? = some (withC s 0) := by
              rw [HQ.out, HSP.out, List.getElem?_append_right (by rw [← HN.out]; omega), ← HN.out, Nat.add_sub_cancel_left, List.getElem?_append_left (by simp; omega), List.getElem?_replicate, if_pos (by omega)]
            have HC := Aside0.mk hcyc
            clear hcyc
            go_wp2_with fail
            (with_reducible refine (script_with.calls s.f0 s.f1 s.f2 s.f3 s.f4 s.f5 s.f6 s.f7 s.f8 s.f9 1 1 s.f1 s.f2 s.f3 s.f4 s.f5 s.f6 s.f7 s.f8 s.f9 _ rfl).mono ?_)
            rintro e w2 ⟨rfl, hb2⟩
            have HJ3 := Aside0.mk (H1.out q _ w2 HJ2.out hb2)
            have KP3 := Aside0.mk (KP2.out.trans (Keep.below b1 hb2))
            have BK3 := Aside0.mk ((hb2.block wo.heap.size hblt).trans BK.out)
            have hblt2 : wo.heap.size < w2.heap.size := Nat.lt_of_lt_of_le hblt hb2.size
            clear hb2 x0 x1 x2 x3 x4 x5 x6 x7 x8 x9
            go_wp2_with fail
            (with_reducible refine (HS.out q _ s HJ3.out HC.out).mono ?_)
            rintro e w3 hy
            obtain ⟨r, rfl, hr1, hr2, hk3⟩ : ∃ r : Bool, e = .returned (.bool r) ∧ (r = true → J (q + 1) w3) ∧ (r = false → F w3) ∧ Keep b1 w2 w3 := hy
            have KP4 := Aside0.mk (KP3.out.trans hk3)
            have BK4 := Aside0.mk ((hk3.2 wo.heap.size GE.out hblt2).trans BK3.out)
            cases r
            · have FF := Aside0.mk (hr2 rfl)
              clear hr1 hr2 hk3
              go_wp2
              rw [Exit.noGoto_normal]
              go_end0
              exact ⟨rfl, .inr FF.out, KP4.out⟩
            · have JJ := Aside0.mk (hr1 rfl)
              clear hr1 hr2 hk3
              go_wp2
              go_roundw
              case rel => exact ⟨t + 1, q + 1, by omega, by go_num, by go_num, ⟨by rw [HQ.out]; omega⟩, JJ, KP4, BK4⟩
              case measure => simp [RowKit.intOf]; omega
          · have hte : (t : Int) = s.f0 := by omega
            have hd : decide ((t : Int) < s.f0) = false := decide_eq_false htl
            have HN2 : Aside0 (q = (cyc (m.take (k + 1))).length) := ⟨by
              rw [HQ.out, cyc_take m k hlt s HSS.out, List.length_append, List.length_replicate, ← HN.out]; omega⟩
            clear hte
            go_wp2
            go_roundw
            case rel => exact ⟨k + 1, q, by omega, by go_num, rfl, HN2, HJ2, KP2⟩
            case measure => simp [RowKit.intOf]; omega
    · obtain rfl : k = m.length := by omega
      have hn : n = (cyc m).length := by rw [HN.out, List.take_length]
      subst hn
      clear HN
      go_wp2
      rw [Exit.noGoto_normal]
      go_end0
      exact ⟨rfl, .inl HJ.out, KP.out⟩

set_option maxRecDepth 100000 in
set_option maxHeartbeats 8000000 in
theorem iter33 (p1 p2 p3 p4 p5 p6 p7 : Value) (b b1 : Nat) (A : Option Addr) (c : Nat) (m : List S34) (J : Nat → World → Prop) (F : World → Prop) (w : World) (hm : m.all okC = true) (hml : m.length ≤ 4096)
    (h0 : J 0 w) (h1 : ∀ n w w', J n w → Below w.heap.size w w' → J n w') (h2 : ∀ n w, J n w → BoxAt b A c m w) (hb1 : b1 ≤ w.heap.size)
    (step : ∀ n w s, J n w → (cyc m)[n]? = some (withC s 0) → Calls Tryd.prog 33 #[.int .i64 (n : Int), .agg #[.int .i64 1, .int .u16 s.f1, .bool s.f2, .bool s.f3, .bool s.f4, .bool s.f5, .bool s.f6, .bool s.f7, .bool s.f8, .int .u8 s.f9], p1, p2, p3, p4, p5, p6, p7] w (YPost J F b1 n w)) :
    Calls Tryd.prog 49 #[.func (Fn.func 33) #[] #[p1, p2, p3, p4, p5, p6, p7], .pointer (some ⟨b, 0, none⟩)] w fun e w' => e = .returned (.tuple #[]) ∧ (J (cyc m).length w' ∨ F w') ∧ Keep b1 w w' := by
  have HJ := Aside0.mk h0
  have H1 := Aside0.mk h1
  have H2 := Aside0.mk h2
  have HS := Aside0.mk step
  have HM := Aside0.mk hm
  have KP := Aside0.mk (Keep.refl b1 w)
  have HB1 := Aside0.mk hb1
  have hcell := cell_of_one (h2 0 w h0).1
  clear h0 h1 h2 step hm hb1
  go_enter Tryd.func49, Tryd.ntmps49
  go_step3
  go_wp2_with fail
  go_step3
  go_wp2_with fail
  go_loopw [3, 5, 8, 14] (fun v3 _ v8 _ wr => ∃ k n : Nat, k ≤ m.length ∧ v8 = .int .i64 k ∧ v3 = .int .i64 n ∧ Aside0 (n = (cyc (m.take k)).length) ∧ Aside0 (J n wr) ∧ Aside0 (Keep b1 w wr)) (fun _ _ i _ _ => m.length - (RowKit.intOf i).toNat)
  case atStart => exact ⟨0, 0, Nat.zero_le _, rfl, rfl, ⟨rfl⟩, HJ, KP⟩
  case round =>
    clear HJ KP hcell
    obtain ⟨k, n, hk, rfl, rfl, HN, HJ, KP⟩ := hrel
    obtain ⟨wo, rfl⟩ : ∃ wo : World, wo = wr := ⟨_, rfl⟩
    by_cases hlt : k < m.length
    · obtain ⟨s, hs⟩ : ∃ s, m[k] = s := ⟨_, rfl⟩
      have hso := List.all_eq_true.1 HM.out s (by rw [← hs]; exact List.getElem_mem hlt)
      have hs1 := okC_pos hso
      have hbx := H2.out n wo HJ.out
      have hsp := cyc_at m k hlt s hs
      have HSP := Aside0.mk hsp
      have HSS := Aside0.mk hs
      cases A with
      | none =>
        exfalso
        obtain ⟨ad, e, _⟩ := hbx.2.1.2.2 (by omega)
        cases e
      | some ad =>
        obtain ⟨q0, q1, q2, q3, q4, q5, q6, q7, q8, q9⟩ := cells_at hbx.2.1 (Below.refl _ _) (k : Int) (by omega) (by omega) s (by rw [rd_get m k (by omega) (by simpa using hlt)]; simpa using hs)
        rw [Int.toNat_natCast] at q0 q1 q2 q3 q4 q5 q6 q7 q8 q9
        have k0 : (k : Int) < (m.length : Int) := by omega
        have hnb : n ≤ 4294967296 := by
          have := HN.out
          have h3 := cyc_le (m.take k) (List.all_eq_true.2 fun x hx => List.all_eq_true.1 HM.out x (List.mem_of_mem_take hx))
          rw [List.length_take] at h3
          omega
        have HJ2 := Aside0.mk (H1.out n wo _ HJ.out (below_alloc (Below.refl _ _) (.cells #[.int .i64 s.f0, .int .u16 s.f1, .bool s.f2, .bool s.f3, .bool s.f4, .bool s.f5, .bool s.f6, .bool s.f7, .bool s.f8, .int .u8 s.f9] 34)))
        have KP2 := Aside0.mk (KP.out.trans (Keep.below b1 (below_alloc (Below.refl wo.heap.size wo) (.cells #[.int .i64 s.f0, .int .u16 s.f1, .bool s.f2, .bool s.f3, .bool s.f4, .bool s.f5, .bool s.f6, .bool s.f7, .bool s.f8, .int .u8 s.f9] 34))))
        have BK0 := Aside0.mk (heap_alloc_new wo (.cells #[.int .i64 s.f0, .int .u16 s.f1, .bool s.f2, .bool s.f3, .bool s.f4, .bool s.f5, .bool s.f6, .bool s.f7, .bool s.f8, .int .u8 s.f9] 34))
        have GE := Aside0.mk (Nat.le_trans HB1.out KP.out.1)
        clear hbx hsp hs hso
        go_wp2_with fail
        go_loopw [3, 14] (fun v3 v14 wr => ∃ t q : Nat, (t : Int) ≤ s.f0 ∧ v14 = .int .i64 t ∧ v3 = .int .i64 q ∧ Aside0 (q = n + t) ∧ Aside0 (J q wr) ∧ Aside0 (Keep b1 w wr) ∧ Aside0 (wr.heap[wo.heap.size]? = some (.cells #[.int .i64 s.f0, .int .u16 s.f1, .bool s.f2, .bool s.f3, .bool s.f4, .bool s.f5, .bool s.f6, .bool s.f7, .bool s.f8, .int .u8 s.f9] 34 (0, 0)))) (fun _ i _ => s.f0.toNat - (RowKit.intOf i).toNat)
        case atStart => exact ⟨0, n, by omega, rfl, rfl, ⟨rfl⟩, HJ2, KP2, BK0⟩
        case round =>
          clear HJ2 KP2 BK0
          obtain ⟨t, q, ht, rfl, rfl, HQ, HJ2, KP2, BK⟩ := hrel
          have hqb : q ≤ 8589934592 := by have := HQ.out; omega
          have hblt : wo.heap.size < wr.heap.size := (Array.getElem?_eq_some_iff.1 BK.out).1
          by_cases htl : (t : Int) < s.f0
          · have x0 : wr.cell? ⟨wo.heap.size, 0, none⟩ = some (.int .i64 s.f0) := (blk_cell BK.out 0).trans rfl
            have x1 : wr.cell? ⟨wo.heap.size, 1, none⟩ = some (.int .u16 s.f1) := (blk_cell BK.out 1).trans rfl
            have x2 : wr.cell? ⟨wo.heap.size, 2, none⟩ = some (.bool s.f2) := (blk_cell BK.out 2).trans rfl
            have x3 : wr.cell? ⟨wo.heap.size, 3, none⟩ = some (.bool s.f3) := (blk_cell BK.out 3).trans rfl
            have x4 : wr.cell? ⟨wo.heap.size, 4, none⟩ = some (.bool s.f4) := (blk_cell BK.out 4).trans rfl
            have x5 : wr.cell? ⟨wo.heap.size, 5, none⟩ = some (.bool s.f5) := (blk_cell BK.out 5).trans rfl
            have x6 : wr.cell? ⟨wo.heap.size, 6, none⟩ = some (.bool s.f6) := (blk_cell BK.out 6).trans rfl
            have x7 : wr.cell? ⟨wo.heap.size, 7, none⟩ = some (.bool s.f7) := (blk_cell BK.out 7).trans rfl
            have x8 : wr.cell? ⟨wo.heap.size, 8, none⟩ = some (.bool s.f8) := (blk_cell BK.out 8).trans rfl
            have x9 : wr.cell? ⟨wo.heap.size, 9, none⟩ = some (.int .u8 s.f9) := (blk_cell BK.out 9).trans rfl
            have hcyc : (cyc m)[q]? = some (withC s 0) := by
              rw [HQ.out, HSP.out, List.getElem?_append_right (by rw [← HN.out]; omega), ← HN.out, Nat.add_sub_cancel_left, List.getElem?_append_left (by simp; omega), List.getElem?_replicate, if_pos (by omega)]
            have HC := Aside0.mk hcyc
            clear hcyc
            go_wp2_with fail
            (with_reducible refine (script_with.calls s.f0 s.f1 s.f2 s.f3 s.f4 s.f5 s.f6 s.f7 s.f8 s.f9 1 1 s.f1 s.f2 s.f3 s.f4 s.f5 s.f6 s.f7 s.f8 s.f9 _ rfl).mono ?_)
            rintro e w2 ⟨rfl, hb2⟩
            have HJ3 := Aside0.mk (H1.out q _ w2 HJ2.out hb2)
            have KP3 := Aside0.mk (KP2.out.trans (Keep.below b1 hb2))
            have BK3 := Aside0.mk ((hb2.block wo.heap.size hblt).trans BK.out)
            have hblt2 : wo.heap.size < w2.heap.size := Nat.lt_of_lt_of_le hblt hb2.size
            clear hb2 x0 x1 x2 x3 x4 x5 x6 x7 x8 x9
            go_wp2_with fail
            (with_reducible refine (HS.out q _ s HJ3.out HC.out).mono ?_)
            rintro e w3 hy
            obtain ⟨r, rfl, hr1, hr2, hk3⟩ : ∃ r : Bool, e = .returned (.bool r) ∧ (r = true → J (q + 1) w3) ∧ (r = false → F w3) ∧ Keep b1 w2 w3 := hy
            have KP4 := Aside0.mk (KP3.out.trans hk3)
            have BK4 := Aside0.mk ((hk3.2 wo.heap.size GE.out hblt2).trans BK3.out)
            cases r
            · have FF := Aside0.mk (hr2 rfl)
              clear hr1 hr2 hk3
              go_wp2
              rw [Exit.noGoto_normal]
              go_end0
              exact ⟨rfl, .inr FF.out, KP4.out⟩
            · have JJ := Aside0.mk (hr1 rfl)
              clear hr1 hr2 hk3
              go_wp2
              go_roundw
              case rel => exact ⟨t + 1, q + 1, by omega, by go_num, by go_num, ⟨by rw [HQ.out]; omega⟩, JJ, KP4, BK4⟩
              case measure => simp [RowKit.intOf]; omega
          · have hte : (t : Int) = s.f0 := by omega
            have hd : decide ((t : Int) < s.f0) = false := decide_eq_false htl
            have HN2 : Aside0 (q = (cyc (m.take (k + 1))).length) := ⟨by
              rw [HQ.out, cyc_take m k hlt s HSS.out, List.length_append, List.length_replicate, ← HN.out]; omega⟩
            clear hte
            go_wp2
            go_roundw
            case rel => exact ⟨k + 1, q, by omega, by go_num, rfl, HN2, HJ2, KP2⟩
            case measure => simp [RowKit.intOf]; omega
    · obtain rfl : k = m.length := by omega
      have hn : n = (cyc m).length := by rw [HN.out, List.take_length]
      subst hn
      clear HN
      go_wp2
      rw [Exit.noGoto_normal]
      go_end0
      exact ⟨rfl, .inl HJ.out, KP.out⟩
end Go.Proofs.YtdjffafcmomalaaDoor.All
