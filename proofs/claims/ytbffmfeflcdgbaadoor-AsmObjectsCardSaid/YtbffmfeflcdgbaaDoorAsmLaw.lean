/- vesperlaw14.AsmObjects walked. -/
import Derived.Test.YtbffmfeflcdgbaaDoorAsmChk
import Derived.Test.YtbffmfeflcdgbaaDoorAsmBytW
import Derived.Test.YtbffmfeflcdgbaaDoorAsmObj
import Derived.Test.YtbffmfeflcdgbaaDoorPObx14
import Derived.Test.YtbffmfeflcdgbaaDoorPObx16
set_option linter.unusedVariables false
set_option linter.unusedSimpArgs false
namespace Go.Proofs.YtbffmfeflcdgbaaDoor.Law
open Go Go.RowKit
open Go.Proofs.YtbffmfeflcdgbaaDoorW.PrintWords Go.Proofs.YtbffmfeflcdgbaaDoor.POb Go.Proofs.YtbffmfeflcdgbaaDoor.Room Go.Proofs.YtbffmfeflcdgbaaDoor.Chk Go.Proofs.YtbffmfeflcdgbaaDoor.Byt Go.Proofs.YtbffmfeflcdgbaaDoor.Obj
open Go.Proofs.YtbffmfeflcdgbaaDoor.Code (GOk)

/-- What lies in the world once the object has been made. -/
structure Vx (w V : World) (A0 A1 A2 A3 A4 A5 : Option Addr) (c0 c1 c2 c3 c4 c5 : Nat) (l0 : List S42) (l1 : List S52) (l2 : List S47) (b2 b8 : Nat) : Prop where
 o : V.heap[b2]? = some (.cells #[.slice A0 l0.length c0, .slice A1 l1.length c1, .slice A2 l2.length c2] 26 (0, 0))
 x : V.heap[b8]? = some (.cells #[.slice A3 l0.length c3, .slice A4 l1.length c4, .slice A5 l2.length c5] 26 (0, 0))
 r0 : Kd.C k42 V A0 l0.length l0
 r1 : Kd.C k52 V A1 l1.length l1
 r2 : Kd.C k47 V A2 l2.length l2
 r3 : k42r.C V A3 l0.length l0
 r4 : Kd.C k52 V A4 l1.length l1
 r5 : Kd.C k47 V A5 l2.length l2
 d0 : l0.length ≤ c0
 d1 : l1.length ≤ c1
 d2 : l2.length ≤ c2
 d3 : l0.length ≤ c3
 d4 : l1.length ≤ c4
 d5 : l2.length ≤ c5
 g : GOk V
 below : Below w.heap.size w V

theorem drawn_below {w w1 : World} (h : Drawn0 w w1) : Below w.heap.size w w1 := by
 obtain ⟨⟨n, rfl⟩⟩ := h
 exact pw_below_drewN (Below.refl _ _) n
theorem below_lower {B B' : Nat} {w w' : World} (h : Below B w w') (hb : B' ≤ B) : Below B' w w' := ⟨h.os, h.tape, h.output, h.size, fun k hk => h.block k (by omega)⟩
theorem own_of {W : World} {base B : Nat} {A : Option Addr} {n c : Nat} {l : List Int} (h : kb.R 5 W base (fun _ => True) (.slice A n c) l) (hb : B ≤ base) :
 (A = none ∧ n = 0 ∧ c = 0) ∨ ∃ g cur, A = some ⟨g, 0, none⟩ ∧ B ≤ g ∧ W.heap[g]? = some (.cells cur 5 (0, 0)) ∧ cur.size = c ∧ c ≤ maxLen := by
 obtain ⟨_, inner, ho, _⟩ := h
 rcases ho.2 with ⟨e, h0⟩ | ⟨g, cap, cur, e, hg, hh, hn, hm, hs, _⟩
 ·injection e with e1 e2 e3
  exact .inl ⟨e1, e2, e3⟩
 injection e with e1 e2 e3
 exact .inr ⟨g, cur, e1, by omega, hh, by rw [hs, e3]; exact Nat.mul_one _, by rw [e3]; exact hm⟩
theorem R6_zero (l0 : List S42) (mb : Bool) (l2 : List S47) (h : R6 l0 mb l2 = 0) : blocksB (-1) l0 = true := by
 cases hb : blocksB (-1) l0 with
 | true => rfl
 | false => rw [R6_no0 hb] at h; exact absurd h (by decide)
theorem R6_one (l0 : List S42) (mb : Bool) (l2 : List S47) (h : ¬ R6 l0 mb l2 = 0) : R6 l0 mb l2 = 1 := by
 unfold R6 at h ⊢
 split at h
 ·exact absurd rfl h
 rename_i h2; rw [if_neg h2]

def Wip (B S : Nat) (W : World) (A : Option Addr) (c : Nat) : Prop := (A = none ∧ c = 0) ∨ ∃ g cur, A = some ⟨g, 0, none⟩ ∧ B ≤ g ∧ W.heap[g]? = some (.cells cur 5 (0, 0)) ∧ cur.size = c ∧ g < S ∧ c ≤ maxLen
theorem wip_of {W W1 : World} {B n c : Nat} {A : Option Addr} (h : (A = none ∧ n = 0 ∧ c = 0) ∨ ∃ g cur, A = some ⟨g, 0, none⟩ ∧ B ≤ g ∧ W.heap[g]? = some (.cells cur 5 (0, 0)) ∧ cur.size = c ∧ c ≤ maxLen) (hb : Below W.heap.size W W1) : Wip B W.heap.size W1 A c := by
 rcases h with ⟨e1, _, e3⟩ | ⟨g, cur, e1, e2, e3, e4, e5⟩
 ·exact .inl ⟨e1, e3⟩
 exact .inr ⟨g, cur, e1, e2, Chk.up1 hb e3, e4, blk_lt e3, e5⟩
theorem wip_some {W : World} {B S c : Nat} {A : Option Addr} (h : Wip B S W A c) (hc : 0 < c) : ∃ g cur, A = some ⟨g, 0, none⟩ ∧ B ≤ g ∧ W.heap[g]? = some (.cells cur 5 (0, 0)) ∧ cur.size = c ∧ g < S ∧ c ≤ maxLen := by
 rcases h with ⟨_, e⟩ | h
 ·omega
 exact h
theorem wip_set {W : World} {B S c g : Nat} {cur : Array Value} (hh : W.heap[g]? = some (.cells cur 5 (0, 0))) (hc : cur.size = c) (hg : B ≤ g) (hS : g < S) (hM : c ≤ maxLen) (k : Nat) (v : Value) : Wip B S (W.setCell ⟨g, k, none⟩ v) (some ⟨g, 0, none⟩) c :=
 .inr ⟨g, _, rfl, hg, blk_set hh k v, by simp [hc], hS, hM⟩

theorem at_r {w : World} {A : Option Addr} {n : Nat} {xs : List S42} (h : k42r.C w A n xs) (i : Nat) (h1 : i < n) : ∃ ad g, A = some ad ∧ w.cell? ⟨(ad.add (i * 2)).block, (ad.add (i * 2)).off + 1, none⟩ = some (.slice (some ⟨g, 0, none⟩) (rd_T42 xs i).f1.length ((rd_T42 xs i).f1.length + 5)) ∧ kb.C w (some ⟨g, 0, none⟩) ((rd_T42 xs i).f1.length + 5) ((rd_T42 xs i).f1 ++ mk5) := by
 obtain ⟨ad, c, e, _, hK, hc0⟩ := Kd.C_get h z42 (i : Int) (by omega) (by omega)
 have hc : ∀ j u, c[j]? = some u → w.cell? (ad.add (i * 2 + j)) = some u := by
  intro j u hj
  have := hc0 j u hj
  rwa [show (i : Int).toNat * k42r.sz + j = i * 2 + j from by rw [Int.toNat_natCast]; rfl] at this
 obtain ⟨a, b, rfl, rfl, h2⟩ := hK
 obtain ⟨g, rfl, h3⟩ := kRm_C h2
 exact ⟨ad, g, e, by rw [← add_field _ _ 1 (by omega)]; exact hc 1 _ rfl, h3⟩

/-- The plain facts that the law stands on. -/
structure Pl (K : Nat) (mb : Bool) (l0 : List S42) (l1 : List S52) (l2 : List S47) (nm : ByteArray) (a b : Int) (fr : Int × Bool) : Prop where
 n0 : l0.length ≤ 100000000000
 n1 : l1.length ≤ 100000000000
 n2 : l2.length ≤ 100000000000
 nb : ∀ x ∈ l0, x.f1.length ≤ 100000000000
 mkd : blocksB (-1) l0 = true → asm_marked.f K l0 l1 l2 = some mb
 ck : vesperref14_Check.f K l0 l1 l2 = some (R6 l0 mb l2)
 by_ : vesperref14_Bytes.f K l0 l1 l2 a b = some (bytesV (R6 l0 mb l2) l0 a b)
 f1 : asm_Find.f K l0 l1 l2 nm = some fr
 f2 : vesperref14_Find.f K l0 l1 l2 nm = some fr
 al : vesperlaw14_alike.f K l0 l1 l2 l0 l1 l2 = some true
 sm : vesperlaw14_same.f K (bytesV (R6 l0 mb l2) l0 a b).1 (bytesV (R6 l0 mb l2) l0 a b).1 = some true

set_option maxRecDepth 100000 in
set_option maxHeartbeats 8000000 in
theorem law_calls (K : Nat) (big mb : Bool) (A0 A1 A2 : Option Addr) (c0 c1 c2 : Nat) (l0 : List S42) (l1 : List S52) (l2 : List S47) (nm : ByteArray) (a b : Int) (fr : Int × Bool) (w : World)
 (hr0 : Kd.C k42 w A0 l0.length l0) (hc0 : l0.length ≤ c0) (hr1 : Kd.C k52 w A1 l1.length l1) (hc1 : l1.length ≤ c1) (hr2 : Kd.C k47 w A2 l2.length l2) (hc2 : l2.length ≤ c2)
 (hbig : vesperlaw14_large.f K l0 l1 l2 = some big) (hpl : big = false → Pl K mb l0 l1 l2 nm a b fr) (hG : GOk w) :
 Calls Tryd.prog 3 #[.agg #[.slice A0 l0.length c0, .slice A1 l1.length c1, .slice A2 l2.length c2], .agg #[.int .i64 a, .int .i64 b, .string nm]] w fun e w' => e = .returned (.bool true) ∧ Below w.heap.size w w' := by
 have HR0 := Aside0.mk hr0
 have HR1 := Aside0.mk hr1
 have HR2 := Aside0.mk hr2
 have HC0 := Aside0.mk hc0
 have HC1 := Aside0.mk hc1
 have HC2 := Aside0.mk hc2
 have HG := Aside0.mk hG
 have HPL := Lib.hid hpl
 clear hr0 hr1 hr2 hc0 hc1 hc2 hG hpl
 have hu26 := Tryd.underlying26
 have HB := Aside0.mk (Below.refl w.heap.size w)
 have HB2 := Aside0.mk (below_alloc (below_alloc HB.out (.cells #[.slice A0 l0.length c0, .slice A1 l1.length c1, .slice A2 l2.length c2] 26)) (.cells #[.int .i64 a, .int .i64 b, .string nm] 28))
 cases big with
 | true =>
  have HBG := Aside0.mk hbig
  clear hbig
  go_enter Tryd.func3, Tryd.ntmps3
  go_wp2_with (first | (go_at_call 4; (with_reducible refine (vesperlaw14_large.calls K A0 c0 l0 A1 c1 l1 A2 c2 l2 true _ (Kd.C_below HR0.out HB2.out) HC0.out (Kd.C_below HR1.out HB2.out) HC1.out (Kd.C_below HR2.out HB2.out) HC2.out HBG.out).mono ?_); rintro e w1 ⟨rfl, hb⟩))
  go_ret
  exact ⟨rfl, below_step HB2.out hb⟩
 | false =>
  have HBG := Aside0.mk hbig
  have HP := Aside0.mk (HPL.out rfl)
  clear hbig
  go_enter Tryd.func3, Tryd.ntmps3
  go_upto_region 7 with (first | (go_at_call 4; (with_reducible refine (vesperlaw14_large.calls K A0 c0 l0 A1 c1 l1 A2 c2 l2 false _ (Kd.C_below HR0.out HB2.out) HC0.out (Kd.C_below HR1.out HB2.out) HC1.out (Kd.C_below HR2.out HB2.out) HC2.out HBG.out).mono ?_); rintro e w1 ⟨rfl, hb⟩; have BL := Aside0.mk (below_step HB2.out hb); have hbo := Chk.up1 hb (Chk.heap_old' (heap_alloc_new w (.cells #[.slice A0 l0.length c0, .slice A1 l1.length c1, .slice A2 l2.length c2] 26))); have k0 : w1.cell? ⟨w.heap.size, 0, none⟩ = some (.slice A0 l0.length c0) := (blk_cell hbo 0).trans rfl; have k1 : w1.cell? ⟨w.heap.size, 1, none⟩ = some (.slice A1 l1.length c1) := (blk_cell hbo 1).trans rfl; have k2 : w1.cell? ⟨w.heap.size, 2, none⟩ = some (.slice A2 l2.length c2) := (blk_cell hbo 2).trans rfl; have HBO := Aside0.mk hbo; clear hbo hb) | (go_at_call 5; (with_reducible refine (object_calls A0 c0 l0 A1 c1 l1 A2 c2 l2 _ (Kd.C_below HR0.out BL.out) HC0.out (Kd.C_below HR1.out BL.out) HC1.out (Kd.C_below HR2.out BL.out) HC2.out HP.out.nb HP.out.n0 HP.out.n1 HP.out.n2).mono ?_); rintro e w2 ⟨A3, c3, A4, c4, A5, c5, rfl, hr3, hc3, hr4, hc4, hr5, hc5, hb⟩; have B2 := Aside0.mk (below_step BL.out hb); have HBO2 := Aside0.mk (Chk.up1 hb HBO.out); have HR3 := Aside0.mk hr3; have HR4 := Aside0.mk hr4; have HR5 := Aside0.mk hr5; have HC3 := Aside0.mk hc3; have HC4 := Aside0.mk hc4; have HC5 := Aside0.mk hc5; clear hr3 hr4 hr5 hc3 hc4 hc5 hb k0 k1 k2))
  have hvx : Vx w (w2.alloc (Obj.cells #[Value.slice A3 l0.length c3, Value.slice A4 l1.length c4, Value.slice A5 l2.length c5] 26)) A0 A1 A2 A3 A4 A5 c0 c1 c2 c3 c4 c5 l0 l1 l2 w.heap.size w2.heap.size := by
   have hal : Below w2.heap.size w2 (w2.alloc (Obj.cells #[Value.slice A3 l0.length c3, Value.slice A4 l1.length c4, Value.slice A5 l2.length c5] 26)) := below_alloc (Below.refl _ _) _
   have hw : Below w.heap.size w (w2.alloc (Obj.cells #[Value.slice A3 l0.length c3, Value.slice A4 l1.length c4, Value.slice A5 l2.length c5] 26)) := below_step B2.out hal
   exact ⟨Chk.heap_old' HBO2.out, heap_alloc_new _ _, Kd.C_below HR0.out hw, Kd.C_below HR1.out hw, Kd.C_below HR2.out hw, Kd.C_below HR3.out hal, Kd.C_below HR4.out hal, Kd.C_below HR5.out hal, HC0.out, HC1.out, HC2.out, HC3.out, HC4.out, HC5.out, GOk.below HG.out hw, hw⟩
  clear HB2 BL B2 HBO HBO2 HR0 HR1 HR2 HR3 HR4 HR5 HC0 HC1 HC2 HC3 HC4 HC5 HG HBG HPL
  generalize (w2.alloc (Obj.cells #[Value.slice A3 l0.length c3, Value.slice A4 l1.length c4, Value.slice A5 l2.length c5] 26)) = V8 at hvx ⊢
  generalize w2.heap.size = b8 at hvx ⊢
  have VX := Aside0.mk hvx
  clear hvx
  have CKC := Lib.hid (fun (W : World) (hW : Below V8.heap.size V8 W) => check_calls K mb A3 c3 l0 A4 c4 l1 A5 c5 l2 W (Kd.C_below (C_of_r VX.out.r3) hW) VX.out.d3 (Kd.C_below VX.out.r4 hW) VX.out.d4 (Kd.C_below VX.out.r5 hW) VX.out.d5 HP.out.mkd (GOk.below VX.out.g hW) HP.out.n0 HP.out.n2)
  have RC0 := Lib.hid (R6_zero l0 mb l2)
  have RC1 := Lib.hid (R6_one l0 mb l2)
  have BV := Aside0.mk (Below.refl V8.heap.size V8)
  have hxx := Chk.up1 BV.out VX.out.x; have hoo := Chk.up1 BV.out VX.out.o; have x0 : V8.cell? ⟨b8, 0, none⟩ = some (.slice A3 l0.length c3) := (blk_cell hxx 0).trans rfl; have o0 : V8.cell? ⟨w.heap.size, 0, none⟩ = some (.slice A0 l0.length c0) := (blk_cell hoo 0).trans rfl; have x1 : V8.cell? ⟨b8, 1, none⟩ = some (.slice A4 l1.length c4) := (blk_cell hxx 1).trans rfl; have o1 : V8.cell? ⟨w.heap.size, 1, none⟩ = some (.slice A1 l1.length c1) := (blk_cell hoo 1).trans rfl; have x2 : V8.cell? ⟨b8, 2, none⟩ = some (.slice A5 l2.length c5) := (blk_cell hxx 2).trans rfl; have o2 : V8.cell? ⟨w.heap.size, 2, none⟩ = some (.slice A2 l2.length c2) := (blk_cell hoo 2).trans rfl; clear hxx hoo
  go_upto_region 14 with (first | (go_at_call 6; (with_reducible refine (CKC.out _ BV.out).mono ?_); rintro e w6 ⟨rfl, hb⟩; replace BV := Aside0.mk (Below.trans BV.out (show Below V8.heap.size _ _ from below_lower hb BV.out.size)); clear x0 x1 x2 o0 o1 o2; have hxx := Chk.up1 BV.out VX.out.x; have hoo := Chk.up1 BV.out VX.out.o; have x0 : w6.cell? ⟨b8, 0, none⟩ = some (.slice A3 l0.length c3) := (blk_cell hxx 0).trans rfl; have o0 : w6.cell? ⟨w.heap.size, 0, none⟩ = some (.slice A0 l0.length c0) := (blk_cell hoo 0).trans rfl; have x1 : w6.cell? ⟨b8, 1, none⟩ = some (.slice A4 l1.length c4) := (blk_cell hxx 1).trans rfl; have o1 : w6.cell? ⟨w.heap.size, 1, none⟩ = some (.slice A1 l1.length c1) := (blk_cell hoo 1).trans rfl; have x2 : w6.cell? ⟨b8, 2, none⟩ = some (.slice A5 l2.length c5) := (blk_cell hxx 2).trans rfl; have o2 : w6.cell? ⟨w.heap.size, 2, none⟩ = some (.slice A2 l2.length c2) := (blk_cell hoo 2).trans rfl; clear hxx hoo; clear hb) | (go_at_call 7; (with_reducible refine (bytes_calls (R6 l0 mb l2) A3 c3 l0 A4 c4 l1 A5 c5 l2 a b _ (Kd.C_below (C_of_r VX.out.r3) BV.out) HP.out.n0 RC0.out RC1.out (fun W' hb' => CKC.out W' (Below.trans BV.out (below_lower hb' BV.out.size)))).mono ?_); rintro e w7 ⟨v, rfl, hR, hb⟩; obtain ⟨Av1, cv1, rfl, hcv, hCv⟩ := Kd.R_reads hR; have OW1 := Aside0.mk (own_of hR BV.out.size); have CV1 := Aside0.mk hCv; have DV1 := Aside0.mk hcv; have BW1 := Aside0.mk (Below.refl w7.heap.size w7); replace BV := Aside0.mk (Below.trans BV.out (show Below V8.heap.size _ _ from below_lower hb BV.out.size)); clear x0 x1 x2 o0 o1 o2; have hxx := Chk.up1 BV.out VX.out.x; have hoo := Chk.up1 BV.out VX.out.o; have x0 : w7.cell? ⟨b8, 0, none⟩ = some (.slice A3 l0.length c3) := (blk_cell hxx 0).trans rfl; have o0 : w7.cell? ⟨w.heap.size, 0, none⟩ = some (.slice A0 l0.length c0) := (blk_cell hoo 0).trans rfl; have x1 : w7.cell? ⟨b8, 1, none⟩ = some (.slice A4 l1.length c4) := (blk_cell hxx 1).trans rfl; have o1 : w7.cell? ⟨w.heap.size, 1, none⟩ = some (.slice A1 l1.length c1) := (blk_cell hoo 1).trans rfl; have x2 : w7.cell? ⟨b8, 2, none⟩ = some (.slice A5 l2.length c5) := (blk_cell hxx 2).trans rfl; have o2 : w7.cell? ⟨w.heap.size, 2, none⟩ = some (.slice A2 l2.length c2) := (blk_cell hoo 2).trans rfl; clear hxx hoo; clear hR hcv hCv hb) | (go_at_call 8; (with_reducible refine (vesperref14_Bytes.calls K A0 c0 l0 A1 c1 l1 A2 c2 l2 a b (bytesV (R6 l0 mb l2) l0 a b).1 (bytesV (R6 l0 mb l2) l0 a b).2 _ (Kd.C_below VX.out.r0 BV.out) VX.out.d0 (Kd.C_below VX.out.r1 BV.out) VX.out.d1 (Kd.C_below VX.out.r2 BV.out) VX.out.d2 HP.out.by_).mono ?_); rintro e w8 ⟨v, rfl, hR, hb⟩; obtain ⟨Avr, cvr, rfl, hcv, hCv⟩ := Kd.R_reads hR; have CVr := Aside0.mk hCv; have RVr := Aside0.mk hR; have DVr := Aside0.mk hcv; have BWr := Aside0.mk (Below.refl w8.heap.size w8); replace BV := Aside0.mk (Below.trans BV.out (show Below V8.heap.size _ _ from below_lower hb BV.out.size)); clear x0 x1 x2 o0 o1 o2; have hxx := Chk.up1 BV.out VX.out.x; have hoo := Chk.up1 BV.out VX.out.o; have x0 : w8.cell? ⟨b8, 0, none⟩ = some (.slice A3 l0.length c3) := (blk_cell hxx 0).trans rfl; have o0 : w8.cell? ⟨w.heap.size, 0, none⟩ = some (.slice A0 l0.length c0) := (blk_cell hoo 0).trans rfl; have x1 : w8.cell? ⟨b8, 1, none⟩ = some (.slice A4 l1.length c4) := (blk_cell hxx 1).trans rfl; have o1 : w8.cell? ⟨w.heap.size, 1, none⟩ = some (.slice A1 l1.length c1) := (blk_cell hoo 1).trans rfl; have x2 : w8.cell? ⟨b8, 2, none⟩ = some (.slice A5 l2.length c5) := (blk_cell hxx 2).trans rfl; have o2 : w8.cell? ⟨w.heap.size, 2, none⟩ = some (.slice A2 l2.length c2) := (blk_cell hoo 2).trans rfl; clear hxx hoo; replace BW1 := Aside0.mk (below_step BW1.out hb); clear hb; clear hR hcv hCv) | (go_at_call 9; (with_reducible refine (asm_Find.calls K A3 c3 l0 A4 c4 l1 A5 c5 l2 nm fr.1 fr.2 _ (Kd.C_below (C_of_r VX.out.r3) BV.out) VX.out.d3 (Kd.C_below VX.out.r4 BV.out) VX.out.d4 (Kd.C_below VX.out.r5 BV.out) VX.out.d5 HP.out.f1).mono ?_); rintro e w9 ⟨rfl, hb⟩; replace BV := Aside0.mk (Below.trans BV.out (show Below V8.heap.size _ _ from below_lower hb BV.out.size)); clear x0 x1 x2 o0 o1 o2; have hxx := Chk.up1 BV.out VX.out.x; have hoo := Chk.up1 BV.out VX.out.o; have x0 : w9.cell? ⟨b8, 0, none⟩ = some (.slice A3 l0.length c3) := (blk_cell hxx 0).trans rfl; have o0 : w9.cell? ⟨w.heap.size, 0, none⟩ = some (.slice A0 l0.length c0) := (blk_cell hoo 0).trans rfl; have x1 : w9.cell? ⟨b8, 1, none⟩ = some (.slice A4 l1.length c4) := (blk_cell hxx 1).trans rfl; have o1 : w9.cell? ⟨w.heap.size, 1, none⟩ = some (.slice A1 l1.length c1) := (blk_cell hoo 1).trans rfl; have x2 : w9.cell? ⟨b8, 2, none⟩ = some (.slice A5 l2.length c5) := (blk_cell hxx 2).trans rfl; have o2 : w9.cell? ⟨w.heap.size, 2, none⟩ = some (.slice A2 l2.length c2) := (blk_cell hoo 2).trans rfl; clear hxx hoo; replace BW1 := Aside0.mk (below_step BW1.out hb); replace BWr := Aside0.mk (below_step BWr.out hb); clear hb) | (go_at_call 10; (with_reducible refine (vesperref14_Find.calls K A0 c0 l0 A1 c1 l1 A2 c2 l2 nm fr.1 fr.2 _ (Kd.C_below VX.out.r0 BV.out) VX.out.d0 (Kd.C_below VX.out.r1 BV.out) VX.out.d1 (Kd.C_below VX.out.r2 BV.out) VX.out.d2 HP.out.f2).mono ?_); rintro e w10 ⟨rfl, hb⟩; replace BV := Aside0.mk (Below.trans BV.out (show Below V8.heap.size _ _ from below_lower hb BV.out.size)); clear x0 x1 x2 o0 o1 o2; have hxx := Chk.up1 BV.out VX.out.x; have hoo := Chk.up1 BV.out VX.out.o; have x0 : w10.cell? ⟨b8, 0, none⟩ = some (.slice A3 l0.length c3) := (blk_cell hxx 0).trans rfl; have o0 : w10.cell? ⟨w.heap.size, 0, none⟩ = some (.slice A0 l0.length c0) := (blk_cell hoo 0).trans rfl; have x1 : w10.cell? ⟨b8, 1, none⟩ = some (.slice A4 l1.length c4) := (blk_cell hxx 1).trans rfl; have o1 : w10.cell? ⟨w.heap.size, 1, none⟩ = some (.slice A1 l1.length c1) := (blk_cell hoo 1).trans rfl; have x2 : w10.cell? ⟨b8, 2, none⟩ = some (.slice A5 l2.length c5) := (blk_cell hxx 2).trans rfl; have o2 : w10.cell? ⟨w.heap.size, 2, none⟩ = some (.slice A2 l2.length c2) := (blk_cell hoo 2).trans rfl; clear hxx hoo; replace BW1 := Aside0.mk (below_step BW1.out hb); replace BWr := Aside0.mk (below_step BWr.out hb); clear hb) | (go_at_call 11; (with_reducible refine (vesperref14_Check.calls K A0 c0 l0 A1 c1 l1 A2 c2 l2 (R6 l0 mb l2) _ (Kd.C_below VX.out.r0 BV.out) VX.out.d0 (Kd.C_below VX.out.r1 BV.out) VX.out.d1 (Kd.C_below VX.out.r2 BV.out) VX.out.d2 HP.out.ck).mono ?_); rintro e w11 ⟨rfl, hb⟩; replace BV := Aside0.mk (Below.trans BV.out (show Below V8.heap.size _ _ from below_lower hb BV.out.size)); clear x0 x1 x2 o0 o1 o2; have hxx := Chk.up1 BV.out VX.out.x; have hoo := Chk.up1 BV.out VX.out.o; have x0 : w11.cell? ⟨b8, 0, none⟩ = some (.slice A3 l0.length c3) := (blk_cell hxx 0).trans rfl; have o0 : w11.cell? ⟨w.heap.size, 0, none⟩ = some (.slice A0 l0.length c0) := (blk_cell hoo 0).trans rfl; have x1 : w11.cell? ⟨b8, 1, none⟩ = some (.slice A4 l1.length c4) := (blk_cell hxx 1).trans rfl; have o1 : w11.cell? ⟨w.heap.size, 1, none⟩ = some (.slice A1 l1.length c1) := (blk_cell hoo 1).trans rfl; have x2 : w11.cell? ⟨b8, 2, none⟩ = some (.slice A5 l2.length c5) := (blk_cell hxx 2).trans rfl; have o2 : w11.cell? ⟨w.heap.size, 2, none⟩ = some (.slice A2 l2.length c2) := (blk_cell hoo 2).trans rfl; clear hxx hoo; replace BW1 := Aside0.mk (below_step BW1.out hb); replace BWr := Aside0.mk (below_step BWr.out hb); clear hb) | (go_at_call 12; (with_reducible refine (vesperlaw14_same.calls K Av1 cv1 _ Avr cvr _ true _ (Kd.C_below CV1.out BW1.out) DV1.out (Kd.C_below CVr.out BWr.out) DVr.out HP.out.sm).mono ?_); rintro e w12 ⟨rfl, hdd⟩; have hb := drawn_below hdd; clear hdd; replace BV := Aside0.mk (Below.trans BV.out (show Below V8.heap.size _ _ from below_lower hb BV.out.size)); clear x0 x1 x2 o0 o1 o2; have hxx := Chk.up1 BV.out VX.out.x; have hoo := Chk.up1 BV.out VX.out.o; have x0 : w12.cell? ⟨b8, 0, none⟩ = some (.slice A3 l0.length c3) := (blk_cell hxx 0).trans rfl; have o0 : w12.cell? ⟨w.heap.size, 0, none⟩ = some (.slice A0 l0.length c0) := (blk_cell hoo 0).trans rfl; have x1 : w12.cell? ⟨b8, 1, none⟩ = some (.slice A4 l1.length c4) := (blk_cell hxx 1).trans rfl; have o1 : w12.cell? ⟨w.heap.size, 1, none⟩ = some (.slice A1 l1.length c1) := (blk_cell hoo 1).trans rfl; have x2 : w12.cell? ⟨b8, 2, none⟩ = some (.slice A5 l2.length c5) := (blk_cell hxx 2).trans rfl; have o2 : w12.cell? ⟨w.heap.size, 2, none⟩ = some (.slice A2 l2.length c2) := (blk_cell hoo 2).trans rfl; clear hxx hoo; replace BW1 := Aside0.mk (below_step BW1.out hb); replace BWr := Aside0.mk (below_step BWr.out hb); clear hb) | (go_at_call 13; (with_reducible refine (vesperlaw14_alike.calls K A3 c3 l0 A4 c4 l1 A5 c5 l2 A0 c0 l0 A1 c1 l1 A2 c2 l2 true _ (Kd.C_below (C_of_r VX.out.r3) BV.out) VX.out.d3 (Kd.C_below VX.out.r4 BV.out) VX.out.d4 (Kd.C_below VX.out.r5 BV.out) VX.out.d5 (Kd.C_below VX.out.r0 BV.out) VX.out.d0 (Kd.C_below VX.out.r1 BV.out) VX.out.d1 (Kd.C_below VX.out.r2 BV.out) VX.out.d2 HP.out.al).mono ?_); rintro e w13 ⟨rfl, hb⟩; replace BV := Aside0.mk (Below.trans BV.out (show Below V8.heap.size _ _ from below_lower hb BV.out.size)); clear x0 x1 x2 o0 o1 o2; have hxx := Chk.up1 BV.out VX.out.x; have hoo := Chk.up1 BV.out VX.out.o; have x0 : w13.cell? ⟨b8, 0, none⟩ = some (.slice A3 l0.length c3) := (blk_cell hxx 0).trans rfl; have o0 : w13.cell? ⟨w.heap.size, 0, none⟩ = some (.slice A0 l0.length c0) := (blk_cell hoo 0).trans rfl; have x1 : w13.cell? ⟨b8, 1, none⟩ = some (.slice A4 l1.length c4) := (blk_cell hxx 1).trans rfl; have o1 : w13.cell? ⟨w.heap.size, 1, none⟩ = some (.slice A1 l1.length c1) := (blk_cell hoo 1).trans rfl; have x2 : w13.cell? ⟨b8, 2, none⟩ = some (.slice A5 l2.length c5) := (blk_cell hxx 2).trans rfl; have o2 : w13.cell? ⟨w.heap.size, 2, none⟩ = some (.slice A2 l2.length c2) := (blk_cell hoo 2).trans rfl; clear hxx hoo; replace BW1 := Aside0.mk (below_step BW1.out hb); replace BWr := Aside0.mk (below_step BWr.out hb); clear hb))
  have HWP := Aside0.mk (wip_of OW1.out BW1.out)
  have j0 : (0 : Int) ≤ (cv1 : Int) := by omega
  have hb13 := BV
  have RV13 := Aside0.mk (Kd.R_below RVr.out BWr.out)
  go_wp2
  go_loopw [19] (fun v19 wr => ∃ k : Nat, k ≤ cv1 ∧ v19 = .int .i64 k ∧ Aside0 (Wip V8.heap.size w7.heap.size wr Av1 cv1) ∧ Aside0 (Below V8.heap.size V8 wr) ∧ Aside0 (kb.R 5 wr w7.heap.size (fun _ => True) (.slice Avr (bytesV (R6 l0 mb l2) l0 a b).1.length cvr) (bytesV (R6 l0 mb l2) l0 a b).1)) (fun i _ => cv1 - (RowKit.intOf i).toNat)
  case atStart => exact ⟨0, Nat.zero_le _, rfl, HWP, BV, RV13⟩
  case round =>
   obtain ⟨k, hk, rfl, HWP2, BV2, RV2⟩ := hrel
   clear HWP hb13 RV13 BWr CVr x0 x1 x2 o0 o1 o2
   by_cases hlt : k < cv1
   ·obtain ⟨g, cur, eA, hgB, hh, hcs, hgS, hM⟩ := wip_some HWP2.out (by omega)
    subst eA
    have i0 : (k : Int) < (cv1 : Int) := by omega
    simp only [maxLen] at hM
    obtain ⟨u0, hu0⟩ : ∃ u, cur[k]? = some u := ⟨_, Array.getElem?_eq_getElem (by omega)⟩
    have q0 : wr.cell? ⟨g, k, none⟩ = some u0 := (blk_cell hh k).trans hu0
    have f0 := blk_frozen hh k
    have HN := Aside0.mk (wip_set hh hcs hgB hgS hM k (.int .u8 165))
    have HB4 := Aside0.mk (below_set' BV2.out (p := ⟨g, k, none⟩) (v := .int .u8 165) hgB)
    have HR4 := Aside0.mk (Kd.R_mono (ok' := fun _ => True) (Kd.R_far (Kd.R_bound RV2.out) (p := ⟨g, k, none⟩) (fun i hi => by have h1 := hi.2.1; show i ≠ g; omega) (.int .u8 165)) (fun _ _ => trivial))
    clear hh hcs hu0
    go_wp2
    go_roundw
    case rel => exact ⟨k + 1, by omega, by go_num, HN, HB4, HR4⟩
    case measure => simp [RowKit.intOf]; omega
   obtain rfl : k = cv1 := by omega
   have BV := BV2
   have RVr := RV2
   clear HWP2 BV2
   have hxx := Chk.up1 BV.out VX.out.x; have hoo := Chk.up1 BV.out VX.out.o; have x0 : wr.cell? ⟨b8, 0, none⟩ = some (.slice A3 l0.length c3) := (blk_cell hxx 0).trans rfl; have o0 : wr.cell? ⟨w.heap.size, 0, none⟩ = some (.slice A0 l0.length c0) := (blk_cell hoo 0).trans rfl; have x1 : wr.cell? ⟨b8, 1, none⟩ = some (.slice A4 l1.length c4) := (blk_cell hxx 1).trans rfl; have o1 : wr.cell? ⟨w.heap.size, 1, none⟩ = some (.slice A1 l1.length c1) := (blk_cell hoo 1).trans rfl; have x2 : wr.cell? ⟨b8, 2, none⟩ = some (.slice A5 l2.length c5) := (blk_cell hxx 2).trans rfl; have o2 : wr.cell? ⟨w.heap.size, 2, none⟩ = some (.slice A2 l2.length c2) := (blk_cell hoo 2).trans rfl; clear hxx hoo
   go_upto_region 20 with (first | (go_at_call 7; (with_reducible refine (bytes_calls (R6 l0 mb l2) A3 c3 l0 A4 c4 l1 A5 c5 l2 a b _ (Kd.C_below (C_of_r VX.out.r3) BV.out) HP.out.n0 RC0.out RC1.out (fun W' hb' => CKC.out W' (Below.trans BV.out (below_lower hb' BV.out.size)))).mono ?_); rintro e w17 ⟨v, rfl, hR, hb⟩; obtain ⟨Av2, cv2, rfl, hcv, hCv⟩ := Kd.R_reads hR; have OW2 := Aside0.mk (own_of hR BV.out.size); have CV2 := Aside0.mk hCv; have DV2 := Aside0.mk hcv; have BW2 := Aside0.mk (Below.refl w17.heap.size w17); replace BV := Aside0.mk (Below.trans BV.out (show Below V8.heap.size _ _ from below_lower hb BV.out.size)); clear x0 x1 x2 o0 o1 o2; have hxx := Chk.up1 BV.out VX.out.x; have hoo := Chk.up1 BV.out VX.out.o; have x0 : w17.cell? ⟨b8, 0, none⟩ = some (.slice A3 l0.length c3) := (blk_cell hxx 0).trans rfl; have o0 : w17.cell? ⟨w.heap.size, 0, none⟩ = some (.slice A0 l0.length c0) := (blk_cell hoo 0).trans rfl; have x1 : w17.cell? ⟨b8, 1, none⟩ = some (.slice A4 l1.length c4) := (blk_cell hxx 1).trans rfl; have o1 : w17.cell? ⟨w.heap.size, 1, none⟩ = some (.slice A1 l1.length c1) := (blk_cell hoo 1).trans rfl; have x2 : w17.cell? ⟨b8, 2, none⟩ = some (.slice A5 l2.length c5) := (blk_cell hxx 2).trans rfl; have o2 : w17.cell? ⟨w.heap.size, 2, none⟩ = some (.slice A2 l2.length c2) := (blk_cell hoo 2).trans rfl; clear hxx hoo; have RVr2 := Aside0.mk (Kd.R_below RVr.out hb); clear hR hcv hCv hb))
   have BV0 := BV
   have RV0 := RVr2
   have BW0 := BW2
   go_wp2
   go_loopw [22] (fun v22 wr => ∃ j : Nat, j ≤ l0.length ∧ v22 = .int .i64 j ∧ Aside0 (Below V8.heap.size V8 wr) ∧ Aside0 (Below w17.heap.size w17 wr)) (fun i _ => l0.length - (RowKit.intOf i).toNat)
   case atStart => exact ⟨0, Nat.zero_le _, rfl, BV0, BW0⟩
   case round =>
    obtain ⟨j, hj, rfl, BV, BW2⟩ := hrel
    clear BV0 BW0 x0 x1 x2 o0 o1 o2
    have hxx := Chk.up1 BV.out VX.out.x; have hoo := Chk.up1 BV.out VX.out.o; have x0 : wr.cell? ⟨b8, 0, none⟩ = some (.slice A3 l0.length c3) := (blk_cell hxx 0).trans rfl; have o0 : wr.cell? ⟨w.heap.size, 0, none⟩ = some (.slice A0 l0.length c0) := (blk_cell hoo 0).trans rfl; have x1 : wr.cell? ⟨b8, 1, none⟩ = some (.slice A4 l1.length c4) := (blk_cell hxx 1).trans rfl; have o1 : wr.cell? ⟨w.heap.size, 1, none⟩ = some (.slice A1 l1.length c1) := (blk_cell hoo 1).trans rfl; have x2 : wr.cell? ⟨b8, 2, none⟩ = some (.slice A5 l2.length c5) := (blk_cell hxx 2).trans rfl; have o2 : wr.cell? ⟨w.heap.size, 2, none⟩ = some (.slice A2 l2.length c2) := (blk_cell hoo 2).trans rfl; clear hxx hoo
    by_cases hlt : j < l0.length
    ·have i0 : (j : Int) < (l0.length : Int) := by omega
     have i1 : (0 : Int) ≤ (j : Int) := by omega
     obtain ⟨ado, A', c', ea, _, hy1, _, _⟩ := at_T42 VX.out.r0 (j : Int) i1 i0
     obtain ⟨adx, g, eb, hy2, hrm⟩ := at_r VX.out.r3 j hlt
     rw [Int.toNat_natCast] at hy1
     have EA := Aside0.mk ea
     have EB := Aside0.mk eb
     rw [eb] at x0
     rw [ea] at o0
     have hn0 : (rd_T42 l0 (j : Int)).f1.length ≤ 100000000000 := HP.out.nb _ (by unfold rd_T42; rw [Int.toNat_natCast, List.getD_eq_getElem?_getD, List.getElem?_eq_getElem hlt, Option.getD_some]; exact List.getElem_mem hlt)
     have RMY := Lib.hid (fun (W : World) (hW : Below V8.heap.size V8 W) => roomy_calls g (rd_T42 l0 (j : Int)).f1 W (Kd.C_below hrm hW) hn0)
     have y1 := (BV.out.cell (World.block_lt_of_cell? V8 _ hy1)).trans hy1
     have y2 := (BV.out.cell (World.block_lt_of_cell? V8 _ hy2)).trans hy2
     have HY1 := Aside0.mk hy1
     have HY2 := Aside0.mk hy2
     clear ea eb hy1 hy2 hrm hn0
     have HN0 : l0.length ≤ 100000000000 := HP.out.n0
     go_upto_region 23 with fail
     go_region_held3 (fun w' => w'.cell? ⟨b8, 0, none⟩ = some (.slice (some adx) l0.length c3) ∧ w'.cell? ⟨w.heap.size, 0, none⟩ = some (.slice (some ado) l0.length c0) ∧ w'.cell? ⟨(adx.add (j * 2)).block, (adx.add (j * 2)).off + 1, none⟩ = some (.slice (some ⟨g, 0, none⟩) (rd_T42 l0 (j : Int)).f1.length ((rd_T42 l0 (j : Int)).f1.length + 5)) ∧ w'.cell? ⟨(ado.add (j * 2)).block, (ado.add (j * 2)).off + 1, none⟩ = some (.slice A' (rd_T42 l0 (j : Int)).f1.length c')) (first | go_keep) (first | ((go_at_call 14; (with_reducible refine (RMY.out _ (below_drew1 BV.out)).mono ?_); rintro e w24 ⟨rfl, hb⟩; have hb2 : Below wr.heap.size wr w24 := Below.trans (show Below wr.heap.size wr wr.drew from below_drew1 (Below.refl _ _)) hb; have BVn := Aside0.mk (Below.trans BV.out (below_lower hb2 BV.out.size)); have BWn := Aside0.mk (below_step BW2.out hb2); have hxx := Chk.up1 BVn.out VX.out.x; have hoo := Chk.up1 BVn.out VX.out.o; have t0 : w24.cell? ⟨b8, 0, none⟩ = some (.slice (some adx) l0.length c3) := by { rw [← EB.out]; exact (blk_cell hxx 0).trans rfl }; have t1 : w24.cell? ⟨w.heap.size, 0, none⟩ = some (.slice (some ado) l0.length c0) := by { rw [← EA.out]; exact (blk_cell hoo 0).trans rfl }; have t2 := (BVn.out.cell (World.block_lt_of_cell? V8 _ HY1.out)).trans HY1.out; have t3 := (BVn.out.cell (World.block_lt_of_cell? V8 _ HY2.out)).trans HY2.out; clear hb hb2 hxx hoo)))
     go_wp2
     go_roundw
     case rel => exact ⟨j + 1, by omega, by go_num, BVn, BWn⟩
     case measure => simp [RowKit.intOf]; omega
    obtain rfl : j = l0.length := by omega
    go_wp2_with (first | (go_at_call 12; (with_reducible refine (vesperlaw14_same.calls K Av2 cv2 _ Avr cvr _ true _ (Kd.C_below CV2.out BW2.out) DV2.out (Kd.C_below (Kd.R_reads' RV0.out).2.2 BW2.out) DVr.out HP.out.sm).mono ?_); rintro e w20 ⟨rfl, hdd⟩; have hb := drawn_below hdd; clear hdd; replace BV := Aside0.mk (Below.trans BV.out (show Below V8.heap.size _ _ from below_lower hb BV.out.size)); clear x0 x1 x2 o0 o1 o2; have hxx := Chk.up1 BV.out VX.out.x; have hoo := Chk.up1 BV.out VX.out.o; have x0 : w20.cell? ⟨b8, 0, none⟩ = some (.slice A3 l0.length c3) := (blk_cell hxx 0).trans rfl; have o0 : w20.cell? ⟨w.heap.size, 0, none⟩ = some (.slice A0 l0.length c0) := (blk_cell hoo 0).trans rfl; have x1 : w20.cell? ⟨b8, 1, none⟩ = some (.slice A4 l1.length c4) := (blk_cell hxx 1).trans rfl; have o1 : w20.cell? ⟨w.heap.size, 1, none⟩ = some (.slice A1 l1.length c1) := (blk_cell hoo 1).trans rfl; have x2 : w20.cell? ⟨b8, 2, none⟩ = some (.slice A5 l2.length c5) := (blk_cell hxx 2).trans rfl; have o2 : w20.cell? ⟨w.heap.size, 2, none⟩ = some (.slice A2 l2.length c2) := (blk_cell hoo 2).trans rfl; clear hxx hoo; replace BW2 := Aside0.mk (below_step BW2.out hb); clear hb) | (go_at_call 13; (with_reducible refine (vesperlaw14_alike.calls K A3 c3 l0 A4 c4 l1 A5 c5 l2 A0 c0 l0 A1 c1 l1 A2 c2 l2 true _ (Kd.C_below (C_of_r VX.out.r3) BV.out) VX.out.d3 (Kd.C_below VX.out.r4 BV.out) VX.out.d4 (Kd.C_below VX.out.r5 BV.out) VX.out.d5 (Kd.C_below VX.out.r0 BV.out) VX.out.d0 (Kd.C_below VX.out.r1 BV.out) VX.out.d1 (Kd.C_below VX.out.r2 BV.out) VX.out.d2 HP.out.al).mono ?_); rintro e w21 ⟨rfl, hb⟩; replace BV := Aside0.mk (Below.trans BV.out (show Below V8.heap.size _ _ from below_lower hb BV.out.size)); clear x0 x1 x2 o0 o1 o2; have hxx := Chk.up1 BV.out VX.out.x; have hoo := Chk.up1 BV.out VX.out.o; have x0 : w21.cell? ⟨b8, 0, none⟩ = some (.slice A3 l0.length c3) := (blk_cell hxx 0).trans rfl; have o0 : w21.cell? ⟨w.heap.size, 0, none⟩ = some (.slice A0 l0.length c0) := (blk_cell hoo 0).trans rfl; have x1 : w21.cell? ⟨b8, 1, none⟩ = some (.slice A4 l1.length c4) := (blk_cell hxx 1).trans rfl; have o1 : w21.cell? ⟨w.heap.size, 1, none⟩ = some (.slice A1 l1.length c1) := (blk_cell hoo 1).trans rfl; have x2 : w21.cell? ⟨b8, 2, none⟩ = some (.slice A5 l2.length c5) := (blk_cell hxx 2).trans rfl; have o2 : w21.cell? ⟨w.heap.size, 2, none⟩ = some (.slice A2 l2.length c2) := (blk_cell hoo 2).trans rfl; clear hxx hoo; replace BW2 := Aside0.mk (below_step BW2.out hb); clear hb))
    go_ret
    exact ⟨rfl, below_step VX.out.below BV.out⟩
end Go.Proofs.YtbffmfeflcdgbaaDoor.Law
