/- vesperlaw07.seen$1, walked. -/
import Derived.Test.YtdjffafcmomalaaDoorScrSeenL
import Derived.Test.YtdjffafcmomalaaDoorPScrx1
import Derived.Deep.QuietTactic
import Derived.BigQuiet
import Derived.Deep.RegionWith
set_option linter.unusedVariables false
set_option linter.unusedSimpArgs false
namespace Go.Proofs.YtdjffafcmomalaaDoor.All
open Go Go.RowKit
open Go.Proofs.YtdjffafcmomalaaDoorW.PrintWords Go.Proofs.YtdjffafcmomalaaDoor.PScr Go.Proofs.YtdjffafcmomalaaDoor.Scr Go.Proofs.YtdjffafcmomalaaDoor.Lent Go.Proofs.YtdjffafcmomalaaDoor.Own
attribute [local go_sem high] eqA34

def atOf (q : Nat) (w : World) : Nat := match w.cell? ⟨q + 3, 0, none⟩ with
  | some (.int _ n) => n.toNat
  | _ => 0
theorem atOf_six {q : Nat} {A : Option Addr} {c : Nat} {l : List S34} {up n u : Int} {a : Nat} {ok : Bool} {w : World} (h : Six q A c l up n a u ok w) : atOf q w = a := by
  unfold atOf
  rw [cell_of_one h.bat]
  simp
/-- The state within the yield. -/
structure SW (q : Nat) (A : Option Addr) (c : Nat) (l : List S34) (up : Int) (w0 : World) (n : Nat) (w1 : World) (p : S34) (g a u : Nat) (w : World) : Prop where
  six : Six q A c l up n a u true w
  pos : Pos l n a u
  bel : Below w0.heap.size w0 w
  kp : Keep (q + 6) w1 w
  bs : w.heap[g]? = some (.cells #[.int .i64 1, .int .u16 p.f1, .bool p.f2, .bool p.f3, .bool p.f4, .bool p.f5, .bool p.f6, .bool p.f7, .bool p.f8, .int .u8 p.f9] 34 (0, 0))

set_option maxRecDepth 100000 in
set_option maxHeartbeats 8000000 in
theorem seen_step (q : Nat) (ad : Addr) (c : Nat) (l : List S34) (up : Int) (w0 : World) (n : Nat) (w : World) (s : S34) (hq : w0.heap.size ≤ q) (hok : l.all okC = true) (hl : l.length ≤ 4096) (hr : Kd.C k34 w0 (some ad) l.length l)
    (h : SJ q (some ad) c l up w0 n w) (hc : (cyc l)[n]? = some (withC s 0)) :
    Calls Tryd.prog 50 #[.int .i64 (n : Int), .agg #[.int .i64 1, .int .u16 s.f1, .bool s.f2, .bool s.f3, .bool s.f4, .bool s.f5, .bool s.f6, .bool s.f7, .bool s.f8, .int .u8 s.f9], .pointer (some ⟨q + 3, 0, none⟩), .pointer (some ⟨q, 0, none⟩), .pointer (some ⟨q + 4, 0, none⟩), .pointer (some ⟨q + 2, 0, none⟩), .pointer (some ⟨q + 5, 0, none⟩), .pointer (some ⟨q + 1, 0, none⟩)] w
      (YPost (SJ q (some ad) c l up w0) (SF q l up w0) (q + 6) n w) := by
  have HCY := Aside0.mk hc
  have HOK := Aside0.mk hok
  have HR := Aside0.mk hr
  have hnN : n < (cyc l).length := (List.getElem?_eq_some_iff.1 hc).1
  have hnB : n ≤ 4294967296 := by
    have := cyc_le l hok
    omega
  have hsz : q + 5 < w.heap.size := by
    obtain ⟨a, u, h1, _⟩ := h.ex
    exact (Array.getElem?_eq_some_iff.1 h1.bok).1
  have HW : Aside0 (∃ a u, SW q (some ad) c l up w0 n w s w.heap.size a u (w.alloc (.cells #[.int .i64 1, .int .u16 s.f1, .bool s.f2, .bool s.f3, .bool s.f4, .bool s.f5, .bool s.f6, .bool s.f7, .bool s.f8, .int .u8 s.f9] 34))) := by
    have hb := below_alloc (Below.refl w.heap.size w) (.cells #[.int .i64 1, .int .u16 s.f1, .bool s.f2, .bool s.f3, .bool s.f4, .bool s.f5, .bool s.f6, .bool s.f7, .bool s.f8, .int .u8 s.f9] 34)
    obtain ⟨⟨a, u, h1, h2⟩, h3, h6⟩ := h.below hb
    exact ⟨a, u, h1, h2, h6, Keep.below _ hb, heap_alloc_new w _⟩
  have HLT := Aside0.mk h.lt
  clear h hc hok hr
  go_enter Tryd.func50, Tryd.ntmps50
  go_wp2_with fail
  go_loopw [12] (fun _ wr => Aside0 (∃ a u, SW q (some ad) c l up w0 n w s w.heap.size a u wr)) (fun _ wr => l.length - atOf q wr)
  case atStart => exact HW
  case round =>
    clear HW
    have HW := hrel
    clear hrel
    obtain ⟨a, u, hSW⟩ := HW.out
    have ha := hSW.pos.in hnN
    have q1 := cell_of_one hSW.six.bat
    have q2 := cell_of_one hSW.six.bl
    have q3 := cell_of_one hSW.six.bused
    have y1 := free_of_one hSW.six.bat
    have y3 := free_of_one hSW.six.bused
    have hat := atOf_six hSW.six
    obtain ⟨t, ht⟩ : ∃ t, l[a] = t := ⟨_, rfl⟩
    obtain ⟨z0, z1, z2, z3, z4, z5, z6, z7, z8, z9⟩ := cells_at HR.out hSW.bel (a : Int) (by omega) (by omega) t (by rw [rd_get l a (by omega) (by simpa using ha)]; simpa using ht)
    rw [Int.toNat_natCast] at z0 z1 z2 z3 z4 z5 z6 z7 z8 z9
    have a0 : (a : Int) < (l.length : Int) := by omega
    have ad1 : decide ((a : Int) < (l.length : Int)) = true := decide_eq_true a0
    have a2 : (0 : Int) ≤ (a : Int) := by omega
    have HT := Aside0.mk ht
    have HAT := Aside0.mk hat
    have hto := okC_pos (List.all_eq_true.1 HOK.out t (by rw [← ht]; exact List.getElem_mem ha))
    have hle := hSW.pos.2.2.1 l[a] (List.getElem?_eq_getElem ha)
    rw [ht] at hle
    have HSW := Aside0.mk hSW
    clear hSW HW ht hat
    by_cases hu : t.f0 ≤ (u : Int)
    · have hud : decide (t.f0 ≤ (u : Int)) = true := decide_eq_true hu
      go_wp2_with fail
      go_quiet (fail)
      have HN : Aside0 (SW q (some ad) c l up w0 n w s w.heap.size (a + 1) 0 (((wr.drewN nq).setCell ⟨q + 3, 0, none⟩ (.int .i64 ((a : Int) + 1))).setCell ⟨q + 4, 0, none⟩ (.int .i64 0))) := by
        have h1 : Below wr.heap.size wr (wr.drewN nq) := pw_below_drewN (Below.refl _ _) nq
        have h2 := HSW.out
        refine ⟨⟨(by have h3 := (((h2.six.below h1).setAt ((a : Int) + 1)).setUsed 0); simpa using h3), h2.pos.next ha HOK.out (by rw [HT.out]; exact hu), ?_, ?_, ?_⟩⟩
        · exact ((h2.bel.trans (h1.mono h2.bel.size)).setCell (by show w0.heap.size ≤ q + 3; omega) _).setCell (by show w0.heap.size ≤ q + 4; omega) _
        · exact ((h2.kp.trans (Keep.below _ h1)).set (q + 3) (by omega) _).set (q + 4) (by omega) _
        · exact set_other (set_other ((h1.block w.heap.size (Array.getElem?_eq_some_iff.1 h2.bs).1).trans h2.bs) (by omega)) (by omega)
      go_wp2
      go_roundw
      case rel => exact ⟨a + 1, 0, HN.out⟩
      case measure => rw [atOf_six HN.out.six, HAT.out]; omega
    · have hud : decide (t.f0 ≤ (u : Int)) = false := decide_eq_false hu
      go_wp2_with fail
      go_quiet (fail)
      have h1 : Below wr.heap.size wr (wr.drewN nq) := pw_below_drewN (Below.refl _ _) nq
      have hbe := HSW.out.bel.trans (h1.mono HSW.out.bel.size)
      obtain ⟨W, hWW⟩ : ∃ W, wr.drewN nq = W := ⟨_, rfl⟩
      have HS2 : Aside0 (SW q (some ad) c l up w0 n w s w.heap.size a u W) := ⟨by
        rw [← hWW]
        exact ⟨HSW.out.six.below h1, HSW.out.pos, hbe, HSW.out.kp.trans (Keep.below _ h1), (h1.block w.heap.size (Array.getElem?_eq_some_iff.1 HSW.out.bs).1).trans HSW.out.bs⟩⟩
      rw [hWW] at hbe h1 ⊢
      clear hWW HSW q1 q2 q3 y1 y3 z0 z1 z2 z3 z4 z5 z6 z7 z8 z9
      have q1 := cell_of_one HS2.out.six.bat
      have q2 := cell_of_one HS2.out.six.bl
      have q4 := cell_of_one HS2.out.six.bn
      obtain ⟨z0, z1, z2, z3, z4, z5, z6, z7, z8, z9⟩ := cells_at HR.out HS2.out.bel (a : Int) (by omega) (by omega) t (by rw [rd_get l a (by omega) (by simpa using ha)]; simpa using HT.out)
      rw [Int.toNat_natCast] at z0 z1 z2 z3 z4 z5 z6 z7 z8 z9
      go_upto_region 9 with fail
      have hb9 : Below W.heap.size W (W.alloc (.cells #[.int .i64 1, .int .u16 t.f1, .bool t.f2, .bool t.f3, .bool t.f4, .bool t.f5, .bool t.f6, .bool t.f7, .bool t.f8, .int .u8 t.f9] 34)) := below_alloc (Below.refl _ _) _
      have bw : (W.alloc (.cells #[.int .i64 1, .int .u16 t.f1, .bool t.f2, .bool t.f3, .bool t.f4, .bool t.f5, .bool t.f6, .bool t.f7, .bool t.f8, .int .u8 t.f9] 34)).heap[W.heap.size]? = some (.cells #[.int .i64 1, .int .u16 t.f1, .bool t.f2, .bool t.f3, .bool t.f4, .bool t.f5, .bool t.f6, .bool t.f7, .bool t.f8, .int .u8 t.f9] 34 (0, 0)) := heap_alloc_new W _
      have HS3 : Aside0 (SW q (some ad) c l up w0 n w s w.heap.size a u (W.alloc (.cells #[.int .i64 1, .int .u16 t.f1, .bool t.f2, .bool t.f3, .bool t.f4, .bool t.f5, .bool t.f6, .bool t.f7, .bool t.f8, .int .u8 t.f9] 34))) := ⟨HS2.out.six.below hb9, HS2.out.pos, below_step HS2.out.bel hb9, HS2.out.kp.trans (Keep.below _ hb9), (hb9.block w.heap.size (Array.getElem?_eq_some_iff.1 HS2.out.bs).1).trans HS2.out.bs⟩
      have hsz2 : w.heap.size < W.heap.size := (Array.getElem?_eq_some_iff.1 HS2.out.bs).1
      obtain ⟨W9, hW9⟩ : ∃ W9, W.alloc (.cells #[.int .i64 1, .int .u16 t.f1, .bool t.f2, .bool t.f3, .bool t.f4, .bool t.f5, .bool t.f6, .bool t.f7, .bool t.f8, .int .u8 t.f9] 34) = W9 := ⟨_, rfl⟩
      obtain ⟨G, hG⟩ : ∃ G, W.heap.size = G := ⟨_, rfl⟩
      rw [hW9] at HS3 bw ⊢
      rw [hG] at bw hsz2 ⊢
      clear hW9 hG hb9 hbe h1 q1 q2 q4 z0 z1 z2 z3 z4 z5 z6 z7 z8 z9 HS2
      have hst : withC s 0 = withC t 0 := by
        have := HS3.out.pos.here ha (by rw [HT.out]; omega) s HCY.out
        rw [HT.out] at this
        exact this
      have bs := HS3.out.bs
      rw [show s.f1 = t.f1 from (congrArg S34.f1 hst : (withC s 0).f1 = (withC t 0).f1), show s.f2 = t.f2 from (congrArg S34.f2 hst : (withC s 0).f2 = (withC t 0).f2), show s.f3 = t.f3 from (congrArg S34.f3 hst : (withC s 0).f3 = (withC t 0).f3), show s.f4 = t.f4 from (congrArg S34.f4 hst : (withC s 0).f4 = (withC t 0).f4), show s.f5 = t.f5 from (congrArg S34.f5 hst : (withC s 0).f5 = (withC t 0).f5), show s.f6 = t.f6 from (congrArg S34.f6 hst : (withC s 0).f6 = (withC t 0).f6), show s.f7 = t.f7 from (congrArg S34.f7 hst : (withC s 0).f7 = (withC t 0).f7), show s.f8 = t.f8 from (congrArg S34.f8 hst : (withC s 0).f8 = (withC t 0).f8), show s.f9 = t.f9 from (congrArg S34.f9 hst : (withC s 0).f9 = (withC t 0).f9)] at bs
      have x0 : W9.cell? ⟨w.heap.size, 0, none⟩ = some (.int .i64 1) := (blk_cell bs 0).trans rfl
      have x1 : W9.cell? ⟨w.heap.size, 1, none⟩ = some (.int .u16 t.f1) := (blk_cell bs 1).trans rfl
      have x2 : W9.cell? ⟨w.heap.size, 2, none⟩ = some (.bool t.f2) := (blk_cell bs 2).trans rfl
      have x3 : W9.cell? ⟨w.heap.size, 3, none⟩ = some (.bool t.f3) := (blk_cell bs 3).trans rfl
      have x4 : W9.cell? ⟨w.heap.size, 4, none⟩ = some (.bool t.f4) := (blk_cell bs 4).trans rfl
      have x5 : W9.cell? ⟨w.heap.size, 5, none⟩ = some (.bool t.f5) := (blk_cell bs 5).trans rfl
      have x6 : W9.cell? ⟨w.heap.size, 6, none⟩ = some (.bool t.f6) := (blk_cell bs 6).trans rfl
      have x7 : W9.cell? ⟨w.heap.size, 7, none⟩ = some (.bool t.f7) := (blk_cell bs 7).trans rfl
      have x8 : W9.cell? ⟨w.heap.size, 8, none⟩ = some (.bool t.f8) := (blk_cell bs 8).trans rfl
      have x9 : W9.cell? ⟨w.heap.size, 9, none⟩ = some (.int .u8 t.f9) := (blk_cell bs 9).trans rfl
      have z0 : W9.cell? ⟨G, 0, none⟩ = some (.int .i64 1) := (blk_cell bw 0).trans rfl
      have z1 : W9.cell? ⟨G, 1, none⟩ = some (.int .u16 t.f1) := (blk_cell bw 1).trans rfl
      have z2 : W9.cell? ⟨G, 2, none⟩ = some (.bool t.f2) := (blk_cell bw 2).trans rfl
      have z3 : W9.cell? ⟨G, 3, none⟩ = some (.bool t.f3) := (blk_cell bw 3).trans rfl
      have z4 : W9.cell? ⟨G, 4, none⟩ = some (.bool t.f4) := (blk_cell bw 4).trans rfl
      have z5 : W9.cell? ⟨G, 5, none⟩ = some (.bool t.f5) := (blk_cell bw 5).trans rfl
      have z6 : W9.cell? ⟨G, 6, none⟩ = some (.bool t.f6) := (blk_cell bw 6).trans rfl
      have z7 : W9.cell? ⟨G, 7, none⟩ = some (.bool t.f7) := (blk_cell bw 7).trans rfl
      have z8 : W9.cell? ⟨G, 8, none⟩ = some (.bool t.f8) := (blk_cell bw 8).trans rfl
      have z9 : W9.cell? ⟨G, 9, none⟩ = some (.int .u8 t.f9) := (blk_cell bw 9).trans rfl
      have q1 := cell_of_one HS3.out.six.bok
      have q2 := cell_of_one HS3.out.six.bn
      have q3 := cell_of_one HS3.out.six.bused
      have q4 := cell_of_one HS3.out.six.bup
      have y1 := free_of_one HS3.out.six.bok
      have y2 := free_of_one HS3.out.six.bn
      have y3 := free_of_one HS3.out.six.bused
      have hge : ¬ l.length ≤ a := by omega
      have hged : decide (l.length ≤ a) = false := decide_eq_false hge
      have hub : u ≤ 4294967296 := by omega
      have NX := Aside0.mk (((HS3.out.six.setOk true).setN ((n : Int) + 1)).setUsed ((u : Int) + 1))
      have PX := Aside0.mk (HS3.out.pos.step ha (by rw [HT.out]; omega))
      have BX := Aside0.mk ((((HS3.out.bel.setCell (p := ⟨q + 5, 0, none⟩) (by show w0.heap.size ≤ q + 5; omega) (.bool true)).setCell (p := ⟨q + 2, 0, none⟩) (by show w0.heap.size ≤ q + 2; omega) (.int .i64 ((n : Int) + 1))).setCell (p := ⟨q + 4, 0, none⟩) (by show w0.heap.size ≤ q + 4; omega) (.int .i64 ((u : Int) + 1))))
      have KX := Aside0.mk ((((HS3.out.kp.set (q + 5) (by omega) (.bool true)).set (q + 2) (by omega) (.int .i64 ((n : Int) + 1))).set (q + 4) (by omega) (.int .i64 ((u : Int) + 1))))
      clear bs bw hst HS3 hge
      by_cases hup : (n : Int) + 1 < up
      · have hupd : decide ((n : Int) + 1 < up) = true := decide_eq_true hup
        go_wp2
        go_ret
        exact ⟨true, rfl, fun _ => ⟨⟨a, u + 1, by have h3 := NX.out; simpa using h3, PX.out⟩, by omega, BX.out⟩, (fun h => by cases h), KX.out⟩
      · have hupd : decide ((n : Int) + 1 < up) = false := decide_eq_false hup
        have hlt := HLT.out
        have hue : up = (n : Int) + 1 := by omega
        have UE := Aside0.mk hue
        clear hue hlt
        go_wp2
        go_ret
        exact ⟨false, rfl, fun h => (by cases h), fun _ => ⟨by rw [UE.out]; exact NX.out.bn, NX.out.bok, by rw [UE.out]; omega, BX.out⟩, KX.out⟩
end Go.Proofs.YtdjffafcmomalaaDoor.All
