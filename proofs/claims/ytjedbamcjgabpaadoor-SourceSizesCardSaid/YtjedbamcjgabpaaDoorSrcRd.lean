/- source.read, walked: the item of a line of words: a label, what a known reader reads, or an instruction; what panics below is caught at the door. -/
import Derived.Test.YtjedbamcjgabpaaDoorSrcRi
import Derived.Test.YtjedbamcjgabpaaDoorPSoSourceMay
import Derived.Deep.RegionHeld3
import Derived.Deep.DeepCutAuto
import Derived.Outline
import Derived.Deep.CutBlock
set_option linter.unusedVariables false
set_option linter.unusedSimpArgs false
namespace Go.Proofs.YtjedbamcjgabpaaDoor.PSo
open Go Go.RowKit
open Go.Proofs.YtjedbamcjgabpaaDoorW.PrintWords
open Go.Proofs.YtjedbamcjgabpaaDoor.Src
set_option maxRecDepth 100000
set_option maxHeartbeats 4000000
/-- The item as it lies in the result's block, with its bytes. -/
def RdHas (w : World) (r : RI) (W : World) : Prop := ∃ v5, W.heap[w.heap.size]? = some (.cells #[.int .u8 r.1, .string r.2.1, .int .i64 r.2.2.1, .string r.2.2.2.1, .int .u8 r.2.2.2.2.1, v5] 43 (0, 0)) ∧ W.heap[w.heap.size + 1]? = some (.cells #[.bool false] 4 (0, 0)) ∧ Kd.R (Kd.int .u8) 5 W w.heap.size (fun _ => True) v5 r.2.2.2.2.2 ∧ Below w.heap.size w W
def RdOut (w : World) (r : RI) (b : Bool) (e : Ending) (w' : World) : Prop := ∃ v5, e = .returned (.tuple #[itemV r v5, .bool b]) ∧ Kd.R (Kd.int .u8) 5 w' w.heap.size (fun _ => True) v5 r.2.2.2.2.2 ∧ Below w.heap.size w w'
def rdZero : RI := (0, ⟨#[]⟩, 0, ⟨#[]⟩, 0, [])
theorem door_panic (w W : World) (R : Ending → World → Prop) (hR : ∀ e w', RdOut w rdZero false e w' → R e w') (tmps : Array Value) (h4 : tmps[4]? = some (.pointer (some ⟨w.heap.size, 0, none⟩))) (h5 : tmps[5]? = some (.pointer (some ⟨w.heap.size + 1, 0, none⟩)))
 (v0 v1 v2 v3 v4 v5 : Value) (z : Bool) (hi : W.heap[w.heap.size]? = some (.cells #[v0, v1, v2, v3, v4, v5] 43 (0, 0))) (hk : W.heap[w.heap.size + 1]? = some (.cells #[.bool z] 4 (0, 0))) (hb : Below w.heap.size w W) :
 bodyPostD Tryd.prog Tryd.f31 R (.panic PN) { tmps := tmps, defers := [{ target := Target.fn (Fn.func 47) #[.pointer (some ⟨w.heap.size, 0, none⟩), .pointer (some ⟨w.heap.size + 1, 0, none⟩)], args := #[] }] } W := by
 show Leaves Tryd.prog Tryd.f31 tmps R _ (.panicking PN) W
 refine leaves_cons (f := 47) (args := #[.pointer (some ⟨w.heap.size, 0, none⟩), .pointer (some ⟨w.heap.size + 1, 0, none⟩)]) (by simp) (by simp [go_sem]) ?_
 refine (rec_panic w.heap.size (w.heap.size + 1) W w z v0 v1 v2 v3 v4 v5 hi hk hb (Nat.le_refl _) (by omega) (by omega)).mono ?_
 rintro e u' w'' ⟨rfl, rfl, h1, h2, h3⟩
 have c0 := (blk_cell h1 0).trans (rfl : _ = some (Value.int .u8 0))
 have c1 := (blk_cell h1 1).trans (rfl : _ = some (Value.string ⟨#[]⟩))
 have c2 := (blk_cell h1 2).trans (rfl : _ = some (Value.int .i64 0))
 have c3 := (blk_cell h1 3).trans (rfl : _ = some (Value.string ⟨#[]⟩))
 have c4 := (blk_cell h1 4).trans (rfl : _ = some (Value.int .u8 0))
 have c5 := (blk_cell h1 5).trans (rfl : _ = some (Value.slice none 0 0))
 have d0 := (blk_cell h2 0).trans (rfl : _ = some (Value.bool false))
 have hRR := hR (.returned (.tuple #[itemV rdZero (.slice none 0 0), .bool false])) w'' ⟨_, rfl, Kd.R_nil _ _ _ _ _, h3⟩
 simp [Leaves, settle, results, Tryd.results31, go_sem, PNr, h4, h5, c0, c1, c2, c3, c4, c5, d0, raised]
 exact hRR
theorem door_normal (w W : World) (R : Ending → World → Prop) (r : RI) (hR : ∀ e w', RdOut w r true e w' → R e w') (tmps : Array Value) (h4 : tmps[4]? = some (.pointer (some ⟨w.heap.size, 0, none⟩))) (h5 : tmps[5]? = some (.pointer (some ⟨w.heap.size + 1, 0, none⟩)))
 (v5 : Value) (hi : W.heap[w.heap.size]? = some (.cells #[.int .u8 r.1, .string r.2.1, .int .i64 r.2.2.1, .string r.2.2.2.1, .int .u8 r.2.2.2.2.1, v5] 43 (0, 0))) (hk : W.heap[w.heap.size + 1]? = some (.cells #[.bool true] 4 (0, 0))) (hv : Kd.R (Kd.int .u8) 5 W w.heap.size (fun _ => True) v5 r.2.2.2.2.2) (hb : Below w.heap.size w W) :
 bodyPostD Tryd.prog Tryd.f31 R .ret { tmps := tmps, defers := [{ target := Target.fn (Fn.func 47) #[.pointer (some ⟨w.heap.size, 0, none⟩), .pointer (some ⟨w.heap.size + 1, 0, none⟩)], args := #[] }] } W := by
 show Leaves Tryd.prog Tryd.f31 tmps R _ .returning W
 refine leaves_cons (f := 47) (args := #[.pointer (some ⟨w.heap.size, 0, none⟩), .pointer (some ⟨w.heap.size + 1, 0, none⟩)]) (by simp) (by simp [go_sem]) ?_
 refine (rec_idle ⟨w.heap.size, 0, none⟩ ⟨w.heap.size + 1, 0, none⟩ W).mono ?_
 rintro e u' w'' ⟨rfl, rfl, rfl⟩
 have c0 := (blk_cell hi 0).trans (rfl : _ = some (Value.int .u8 r.1))
 have c1 := (blk_cell hi 1).trans (rfl : _ = some (Value.string r.2.1))
 have c2 := (blk_cell hi 2).trans (rfl : _ = some (Value.int .i64 r.2.2.1))
 have c3 := (blk_cell hi 3).trans (rfl : _ = some (Value.string r.2.2.2.1))
 have c4 := (blk_cell hi 4).trans (rfl : _ = some (Value.int .u8 r.2.2.2.2.1))
 have c5 := (blk_cell hi 5).trans (rfl : _ = some v5)
 have d0 := (blk_cell hk 0).trans (rfl : _ = some (Value.bool true))
 have hRR := hR (.returned (.tuple #[itemV r v5, .bool true])) w'' ⟨_, rfl, hv, hb⟩
 simp [Leaves, settle, results, Tryd.results31, go_sem, h4, h5, c0, c1, c2, c3, c4, c5, d0, raised]
 exact hRR
theorem look_pair (x : ByteArray) : ∃ fv, lookV x = .tuple #[fv, .bool (rdOfW x).isSome] ∧ ∀ f, rdOfW x = some f → fv = .func (.func f) #[] #[] := by
 unfold lookV
 cases h : rdOfW x with
 | none => exact ⟨_, rfl, fun f hf => by cases hf⟩
 | some f => exact ⟨_, rfl, fun g hg => by cases hg; rfl⟩
def frontB (s : ByteArray) : Bool := match s.data.toList with
 | [] => false
 | b :: _ => b != 32 && b != 9
def labF : List ByteArray → Option RI
 | [x] => if Lib.hasSuffix x.data.toList [58] = true then some (1, ⟨(Lib.trimSuffix x.data.toList [58]).toArray⟩, 0, ⟨#[]⟩, 0, []) else none
 | _ => none
theorem item_stored (w W : World) (r : RI) (a0 a1 a2 a3 a4 a5 v5 : Value) (hi : W.heap[w.heap.size]? = some (.cells #[a0, a1, a2, a3, a4, a5] 43 (0, 0))) (z : Bool) (hk : W.heap[w.heap.size + 1]? = some (.cells #[.bool z] 4 (0, 0))) (hb : Below w.heap.size w W) (hv : Kd.R (Kd.int .u8) 5 W w.heap.size (fun _ => True) v5 r.2.2.2.2.2) :
 ∃ W2, ((((((W.setCell ⟨w.heap.size, 0, none⟩ (.int .u8 r.1)).setCell ⟨w.heap.size, 1, none⟩ (.string r.2.1)).setCell ⟨w.heap.size, 2, none⟩ (.int .i64 r.2.2.1)).setCell ⟨w.heap.size, 3, none⟩ (.string r.2.2.2.1)).setCell ⟨w.heap.size, 4, none⟩ (.int .u8 r.2.2.2.2.1)).setCell ⟨w.heap.size, 5, none⟩ v5) = W2 ∧
  W2.heap[w.heap.size]? = some (.cells #[.int .u8 r.1, .string r.2.1, .int .i64 r.2.2.1, .string r.2.2.2.1, .int .u8 r.2.2.2.2.1, v5] 43 (0, 0)) ∧ W2.heap[w.heap.size + 1]? = some (.cells #[.bool z] 4 (0, 0)) ∧ Kd.R (Kd.int .u8) 5 W2 w.heap.size (fun _ => True) v5 r.2.2.2.2.2 ∧ Below w.heap.size w W2 := by
 have ht : ∀ q, q ∈ 5 :: (Kd.int .u8).E → q ≠ 43 := by decide
 have hne : w.heap.size + 1 ≠ w.heap.size := by omega
 have s0 := blk_put hi 0 (.int .u8 r.1) rfl
 have s1 := blk_put s0 1 (.string r.2.1) rfl
 have s2 := blk_put s1 2 (.int .i64 r.2.2.1) rfl
 have s3 := blk_put s2 3 (.string r.2.2.2.1) rfl
 have s4 := blk_put s3 4 (.int .u8 r.2.2.2.2.1) rfl
 have s5 := blk_put s4 5 v5 rfl
 refine ⟨_, rfl, s5, ?_, ?_, ?_⟩
 ·exact blk_far (p := ⟨w.heap.size, 5, none⟩) (blk_far (p := ⟨w.heap.size, 4, none⟩) (blk_far (p := ⟨w.heap.size, 3, none⟩) (blk_far (p := ⟨w.heap.size, 2, none⟩) (blk_far (p := ⟨w.heap.size, 1, none⟩) (blk_far (p := ⟨w.heap.size, 0, none⟩) hk hne _) hne _) hne _) hne _) hne _) hne _
 ·exact Kd.R_set (Kd.R_set (Kd.R_set (Kd.R_set (Kd.R_set (Kd.R_set hv hi ht 0 _) s0 ht 1 _) s1 ht 2 _) s2 ht 3 _) s3 ht 4 _) s4 ht 5 _
 ·exact below_set (below_set (below_set (below_set (below_set (below_set hb (Nat.le_refl _)) (Nat.le_refl _)) (Nat.le_refl _)) (Nat.le_refl _)) (Nat.le_refl _)) (Nat.le_refl _)
theorem item_cells {W : World} {g : Nat} {t : TypeId} {a0 a1 a2 a3 a4 a5 : Value} (hi : W.heap[g]? = some (.cells #[a0, a1, a2, a3, a4, a5] t (0, 0))) :
 (W.cell? ⟨g, 0, none⟩ = some a0 ∧ W.frozen? ⟨g, 0, none⟩ = false) ∧ (W.cell? ⟨g, 1, none⟩ = some a1 ∧ W.frozen? ⟨g, 1, none⟩ = false) ∧ (W.cell? ⟨g, 2, none⟩ = some a2 ∧ W.frozen? ⟨g, 2, none⟩ = false) ∧ (W.cell? ⟨g, 3, none⟩ = some a3 ∧ W.frozen? ⟨g, 3, none⟩ = false) ∧ (W.cell? ⟨g, 4, none⟩ = some a4 ∧ W.frozen? ⟨g, 4, none⟩ = false) ∧ (W.cell? ⟨g, 5, none⟩ = some a5 ∧ W.frozen? ⟨g, 5, none⟩ = false) :=
 ⟨⟨blk_cell hi 0, blk_frozen hi 0⟩, ⟨blk_cell hi 1, blk_frozen hi 1⟩, ⟨blk_cell hi 2, blk_frozen hi 2⟩, ⟨blk_cell hi 3, blk_frozen hi 3⟩, ⟨blk_cell hi 4, blk_frozen hi 4⟩, ⟨blk_cell hi 5, blk_frozen hi 5⟩⟩
theorem R_low {W : World} {b b' : Nat} {v : Value} {xs : List Int} (h : Kd.R (Kd.int .u8) 5 W b (fun _ => True) v xs) (hb : b' ≤ b) : Kd.R (Kd.int .u8) 5 W b' (fun _ => True) v xs := by
 exact Kd.R_lower h hb
theorem front_is (s : ByteArray) (hs : 0 < s.size) : ((s[0].toNat : Int) != 32 && (s[0].toNat : Int) != 9) = frontB s := by
 obtain ⟨l⟩ := s
 obtain ⟨l⟩ := l
 match l, hs with
 | [], hs => exact absurd hs (by decide)
 | b :: r, hs =>
  have e : ∀ k : Nat, k < 256 → ((b.toNat : Int) != (k : Int)) = (b != UInt8.ofNat k) := fun k hk => by
   rw [Bool.eq_iff_iff, bne_iff_ne, bne_iff_ne, ne_eq, ne_eq, ← UInt8.toNat_inj, UInt8.toNat_ofNat']
   omega
  show ((b.toNat : Int) != 32 && (b.toNat : Int) != 9) = (b != 32 && b != 9)
  rw [show (32 : Int) = ((32 : Nat) : Int) from rfl, show (9 : Int) = ((9 : Nat) : Int) from rfl, e 32 (by omega), e 9 (by omega)]
  rfl
theorem rd_x (s : ByteArray) (hs : 0 < s.size) (A : Option Addr) (c : Nat) (x0 : ByteArray) (ws : List ByteArray) (w : World) (it : Option RI) (fin : RI × Bool)
 (hx0 : x0.size ≤ 9223372036854775807) (hwl : (x0 :: ws).length ≤ 100000000) (hr : Kd.C Kd.string w A (x0 :: ws).length (x0 :: ws)) (hc : (x0 :: ws).length ≤ c) (hG : GOk w)
 (h1 : frontB s = true → labF (x0 :: ws) = it)
 (h2 : frontB s = false → ∀ f, rdOfW x0 = some f → knownF (x0 :: ws) f = it)
 (h3 : frontB s = false → rdOfW x0 = none → ordF (x0 :: ws) = some it)
 (h4 : it = none → fin = (rdZero, false))
 (h5 : ∀ r, it = some r → ∃ b, source_may.f 1000 r.1 r.2.1 r.2.2.1 r.2.2.2.1 r.2.2.2.2.1 r.2.2.2.2.2 = some b ∧ fin = if b = true then (r, true) else (rdZero, false)) :
 Calls Tryd.prog 31 #[.string s, .slice A (x0 :: ws).length c] w fun e w' => RdOut w fin.1 fin.2 e w' := by
 obtain ⟨bk, o, rfl, hbk, hcs⟩ := words_cells hr (by simp)
 have hq0 := hcs 0 x0 rfl
 simp only [Nat.add_zero] at hq0
 obtain ⟨n, hn⟩ : ∃ n, (x0 :: ws).length = n := ⟨_, rfl⟩
 have n0 : (0 : Int) < (n : Int) := by rw [← hn]; simp
 have n1 : 0 < n := by rw [← hn]; simp
 have HIT := Aside0.mk (And.intro h1 (And.intro h2 (And.intro h3 (And.intro h4 h5))))
 rw [hn] at hr hc ⊢
 obtain ⟨fv, hlv, hfv⟩ := look_pair x0
 obtain ⟨fb, hfb⟩ : ∃ fb, (rdOfW x0).isSome = fb := ⟨_, rfl⟩
 rw [hfb] at hlv
 have HFV := Aside0.mk (And.intro hfv hfb)
 have hmf : ∀ (fn : Fn) (first cap : Array Value) (w : World), (Instr.makeFunc fn first cap).run Tryd.prog w = .ok (.func fn first cap) w := fun _ _ _ _ => rfl
 have HR := Aside0.mk hr
 have HC := Aside0.mk (And.intro hc (And.intro hx0 hwl))
 have HQ := Aside0.mk hq0
 have HN := Aside0.mk hn
 have HG := Aside0.mk hG
 have HL := Aside0.mk hlv
 clear hr hn hG hlv hcs hbk hfb hfv hc hx0 hwl h1 h2 h3 h4 h5
 have hi1 := blk_alloc (blk_new w (.cells #[.int .u8 0, .string ⟨#[]⟩, .int .i64 0, .string ⟨#[]⟩, .int .u8 0, .slice none 0 0] 43)) (.cells #[.bool false] 4)
 have hk1 := blk_new (w.alloc (.cells #[.int .u8 0, .string ⟨#[]⟩, .int .i64 0, .string ⟨#[]⟩, .int .u8 0, .slice none 0 0] 43)) (.cells #[.bool false] 4)
 rw [show (w.alloc (.cells #[.int .u8 0, .string ⟨#[]⟩, .int .i64 0, .string ⟨#[]⟩, .int .u8 0, .slice none 0 0] 43)).heap.size = w.heap.size + 1 by simp] at hk1
 have HI := Aside0.mk hi1
 have HK := Aside0.mk hk1
 have HB := Aside0.mk (below_alloc (below_alloc (Below.refl w.heap.size w) (.cells #[.int .u8 0, .string ⟨#[]⟩, .int .i64 0, .string ⟨#[]⟩, .int .u8 0, .slice none 0 0] 43)) (.cells #[.bool false] 4))
 have hsz2 : ((w.alloc (.cells #[.int .u8 0, .string ⟨#[]⟩, .int .i64 0, .string ⟨#[]⟩, .int .u8 0, .slice none 0 0] 43)).alloc (.cells #[.bool false] 4)).heap.size = w.heap.size + 2 := by simp
 have HSZ := Aside0.mk hsz2
 clear hi1 hk1 hq0 hsz2
 go_enter_defers Tryd.func31, Tryd.ntmps31
 go_wp2_with fail
 generalize ((w.alloc (.cells #[.int .u8 0, .string ⟨#[]⟩, .int .i64 0, .string ⟨#[]⟩, .int .u8 0, .slice none 0 0] 43)).alloc (.cells #[.bool false] 4)) = W at HI HK HB HSZ ⊢
 have q := (HB.out.cell (World.block_lt_of_cell? w _ HQ.out)).trans HQ.out
 have HQW := Aside0.mk q
 go_region_held3 (fun w' => w'.cell? ⟨bk, o, none⟩ = some (.string x0)) (first | go_keep | exact q) (first | (go_at_call 48; (with_reducible refine (readers_calls _).mono ?_); rintro e w5 ⟨rfl, hm, hb5⟩; have HW := Aside0.mk (below_step (by repeat (first | (with_reducible first | exact Below.refl _ _ | apply below_alloc | apply pw_below_drewN | apply below_drew1) | exact Below.refl _ _) : Below W.heap.size W _) hb5); have hlk := rd_look x0 w5 W.heap.size hm; rw [HL.out] at hlk; clear hb5 hm q; have q := (HW.out.cell (World.block_lt_of_cell? W _ HQW.out)).trans HQW.out))
 rename_i Q' K' kk hHeld
 refine kk _ _ ?_
 clear hlk hHeld kk
 clear K'
 have HI2 := Aside0.mk (blk_below HI.out HW.out)
 have HK2 := Aside0.mk (blk_below HK.out HW.out)
 have HB2 := Aside0.mk (below_step HB.out HW.out)
 have HQ2 := Aside0.mk q
 clear HI HK HQW HW HSZ HB
 go_upto_block 0 with fail
 go_cut [] from 8 (fun wc => ∃ r, it = some r ∧ RdHas w r wc)
 case rest =>
  obtain ⟨r, hit, v5, hi, hk, hv, hb⟩ := hcut
  obtain ⟨b, hm, hfin⟩ := HIT.out.2.2.2.2 r hit
  obtain ⟨r1, r2, r3, r4, r5, r6⟩ := r
  obtain ⟨A6, c6, rfl, hlc, hcC⟩ := Kd.R_reads hv
  obtain ⟨⟨u0, f0⟩, ⟨u1, f1⟩, ⟨u2, f2⟩, ⟨u3, f3⟩, ⟨u4, f4⟩, ⟨u5, f5⟩⟩ := item_cells hi
  have HX := Aside0.mk (And.intro hi (And.intro hk (And.intro hv (And.intro hb (And.intro hcC (And.intro hlc hm))))))
  clear q hi hk hv hb hcC hlc hm HI2 HK2 HB2 HQ2
  go_wp2_with fail
  (with_reducible refine (source_may.calls 1000 r1 r2 r3 r4 r5 A6 c6 r6 b _ HX.out.2.2.2.2.1 HX.out.2.2.2.2.2.1 HX.out.2.2.2.2.2.2 (GOk.below HG.out HX.out.2.2.2.1)).mono ?_)
  rintro e w9 ⟨rfl, hb9⟩
  have HI9 := Aside0.mk (blk_below HX.out.1 hb9)
  have HK9 := Aside0.mk (blk_below HX.out.2.1 hb9)
  have HV9 := Aside0.mk (Kd.R_below HX.out.2.2.1 hb9)
  have HB9 := Aside0.mk (below_step HX.out.2.2.2.1 hb9)
  clear hb9 HX u0 u1 u2 u3 u4 u5 f0 f1 f2 f3 f4 f5
  obtain ⟨⟨u0, f0⟩, ⟨u1, f1⟩, ⟨u2, f2⟩, ⟨u3, f3⟩, ⟨u4, f4⟩, ⟨u5, f5⟩⟩ := item_cells HI9.out
  cases b with
  | false =>
   clear u0 u1 u2 u3 u4 u5 f0 f1 f2 f3 f4 f5
   rw [if_neg Bool.false_ne_true] at hfin
   go_wp2_with fail
   (with_reducible refine (must_no _).mono ?_)
   rintro e w2 ⟨rfl, rfl⟩
   exact door_panic w _ _ (fun e w' h => by rw [hfin]; exact h) _ rfl rfl _ _ _ _ _ _ _ HI9.out HK9.out HB9.out
  | true =>
   rw [if_pos rfl] at hfin
   obtain ⟨W2, hW2, g1, g2, g3, g4⟩ := item_stored w w9 (r1, r2, r3, r4, r5, r6) _ _ _ _ _ _ _ HI9.out false HK9.out HB9.out HV9.out
   have G := Aside0.mk (And.intro hW2 (And.intro g1 (And.intro g2 (And.intro g3 g4))))
   have k0 := (blk_cell g2 0).trans (rfl : _ = some (Value.bool false))
   have z0 := blk_frozen g2 0
   rw [← hW2] at k0 z0
   clear hW2 g1 g2 g3 g4
   go_wp2_with fail
   (with_reducible refine (must_yes _).mono ?_)
   rintro e w2 ⟨rfl, rfl⟩
   go_wp2_with fail
   rw [G.out.1]
   exact door_normal w _ _ (r1, r2, r3, r4, r5, r6) (fun e w' h => by rw [hfin]; exact h) _ rfl rfl (.slice A6 r6.length c6) (blk_far (p := ⟨w.heap.size + 1, 0, none⟩) G.out.2.1 (Nat.ne_of_lt (Nat.lt_succ_self _)) (.bool true)) (blk_put G.out.2.2.1 0 (.bool true) rfl) (Kd.R_set G.out.2.2.2.1 G.out.2.2.1 (by decide) 0 _) (below_set G.out.2.2.2.2 (Nat.le_succ _))
 case first =>
 clear q
 have hs0 : ((0 : Int) < (s.size : Int)) := by omega
 go_upto_region 4 with fail
 go_cut [21] from 22 (fun v21 wc => v21 = .bool (frontB s) ∧ wc = w5)
 case first =>
  go_upto_if 21 with fail
  all_goals (go_meet; case rel => first | exact ⟨congrArg Value.bool (front_is s hs), rfl⟩ | (refine ⟨?_, rfl⟩; rw [← front_is s hs]; simp_all))
 case rest =>
 clear hs0
 obtain ⟨rfl, hcut⟩ := hcut
 subst hcut
 cases hF : frontB s
 case true =>
  have hit := HIT.out.1 hF
  obtain ⟨sb, hsb⟩ : ∃ sb, Lib.hasSuffix x0.data.toList (⟨#[58]⟩ : ByteArray).data.toList = sb := ⟨_, rfl⟩
  obtain ⟨tx, htx⟩ : ∃ tx, (⟨(Lib.trimSuffix x0.data.toList (⟨#[58]⟩ : ByteArray).data.toList).toArray⟩ : ByteArray) = tx := ⟨_, rfl⟩
  have hbad : ¬ (sb = true ∧ n = 1) → it = none := fun h => by
   rw [← hit]
   match ws, HN.out with
   | [], hn =>
    show (if Lib.hasSuffix x0.data.toList (⟨#[58]⟩ : ByteArray).data.toList = true then _ else none) = none
    rw [hsb, if_neg (fun q => h (And.intro q hn.symm))]
   | _ :: _, _ => rfl
  have hgood : sb = true ∧ n = 1 → it = some (1, tx, 0, ⟨#[]⟩, 0, []) := fun h => by
   rw [← hit]
   match ws, HN.out with
   | [], hn =>
    show (if Lib.hasSuffix x0.data.toList (⟨#[58]⟩ : ByteArray).data.toList = true then (some (1, (⟨(Lib.trimSuffix x0.data.toList (⟨#[58]⟩ : ByteArray).data.toList).toArray⟩ : ByteArray), 0, (⟨#[]⟩ : ByteArray), 0, ([] : List Int)) : Option RI) else none) = _
    rw [hsb, if_pos h.1, htx]
   | _ :: _, hn => simp at hn; omega
  have HBG := Aside0.mk (And.intro hbad hgood)
  have HSB := Aside0.mk (And.intro hsb htx)
  clear hbad hgood hsb htx hit
  have q := HQ2.out
  go_wp2_with fail
  (with_reducible refine (Tryd.strings_CutSuffix x0 ⟨#[58]⟩ _ HC.out.2.1).mono ?_)
  rintro e w1 ⟨rfl, rfl⟩
  rw [HSB.out.1, HSB.out.2]
  clear q
  by_cases hg : sb = true ∧ n = 1
  ·obtain ⟨rfl, rfl⟩ := hg
   have hit := HBG.out.2 ⟨rfl, rfl⟩
   obtain ⟨⟨u0, f0⟩, ⟨u1, f1⟩, ⟨u2, f2⟩, ⟨u3, f3⟩, ⟨u4, f4⟩, ⟨u5, f5⟩⟩ := item_cells HI2.out
   go_wp2_with fail
   (with_reducible refine (must_yes _).mono ?_)
   rintro e w2 ⟨rfl, rfl⟩
   go_wp2_with fail
   go_meet
   case rel =>
   obtain ⟨W2, hW2, g1, g2, g3, g4⟩ := item_stored w _ (1, tx, 0, ⟨#[]⟩, 0, []) _ _ _ _ _ _ (.slice none 0 0) HI2.out false HK2.out HB2.out (Kd.R_nil _ _ _ _ _)
   exact ⟨_, hit, _, by rw [hW2]; exact g1, by rw [hW2]; exact g2, by rw [hW2]; exact g3, by rw [hW2]; exact g4⟩
  ·have hfin := HIT.out.2.2.2.1 (HBG.out.1 hg)
   cases sb with
   | false =>
    go_wp2_with fail
    (with_reducible refine (must_no _).mono ?_)
    rintro e w2 ⟨rfl, rfl⟩
    exact door_panic w _ _ (fun e w' h => by rw [hfin]; exact h) _ rfl rfl _ _ _ _ _ _ _ HI2.out HK2.out HB2.out
   | true =>
    have t1 : ((n : Int) == 1) = false := beq_eq_false_iff_ne.2 (fun e => hg ⟨rfl, by omega⟩)
    clear hg
    go_wp2_with fail
    (with_reducible refine (must_no _).mono ?_)
    rintro e w2 ⟨rfl, rfl⟩
    exact door_panic w _ _ (fun e w' h => by rw [hfin]; exact h) _ rfl rfl _ _ _ _ _ _ _ HI2.out HK2.out HB2.out
 case false =>
  obtain ⟨-, ik, io, ib, -⟩ := HIT.out
  have ik := ik hF
  have io := io hF
  cases hro : rdOfW x0 with
  | some f =>
   have hfv := HFV.out.1 f hro
   have hfb := HFV.out.2
   rw [hro] at hfb
   simp only [Option.isSome_some] at hfb
   subst hfv
   subst hfb
   have hkn := ik f hro
   have hc5 := known_item (some ⟨bk, o, none⟩) c (x0 :: ws) x0 f hro wc (Kd.C_below (by rw [HN.out]; exact HR.out) HB2.out) (by rw [HN.out]; exact HC.out.1) HC.out.2.2 (by simp)
   rw [HN.out, hkn] at hc5
   have HC5 := Aside0.mk hc5
   clear hc5 hkn ik io
   obtain ⟨⟨u0, f0⟩, ⟨u1, f1⟩, ⟨u2, f2⟩, ⟨u3, f3⟩, ⟨u4, f4⟩, ⟨u5, f5⟩⟩ := item_cells HI2.out
   have hf3 : f = 62 ∨ f = 64 ∨ f = 65 := by
    unfold rdOfW at hro
    split at hro
    ·exact Or.inl (Option.some.inj hro).symm
    ·split at hro
     ·exact Or.inr (Or.inl (Option.some.inj hro).symm)
     ·split at hro
      ·exact Or.inr (Or.inr (Option.some.inj hro).symm)
      ·cases hro
   clear hro
   rcases hf3 with rfl | rfl | rfl
   all_goals
    go_wp2_with fail
    (with_reducible refine HC5.out.mono ?_)
    rintro e w6 he
    cases it with
    | none =>
     obtain ⟨rfl, hb6⟩ := he
     have hfin := HIT.out.2.2.2.1 rfl
     exact door_panic w _ _ (fun e w' h => by rw [hfin]; exact h) _ rfl rfl _ _ _ _ _ _ _ (blk_below HI2.out hb6) (blk_below HK2.out hb6) (below_step HB2.out hb6)
    | some r =>
     obtain ⟨r1, r2, r3, r4, r5, r6⟩ := r
     obtain ⟨v5, rfl, hv6, hb6⟩ := he
     clear u0 u1 u2 u3 u4 u5 f0 f1 f2 f3 f4 f5
     have HI6 := Aside0.mk (blk_below HI2.out hb6)
     have HK6 := Aside0.mk (blk_below HK2.out hb6)
     have HB6 := Aside0.mk (below_step HB2.out hb6)
     have HV6 := Aside0.mk (R_low hv6 HB2.out.size)
     obtain ⟨A6, c6, rfl, -, -⟩ := Kd.R_reads hv6
     clear hb6 hv6
     obtain ⟨⟨u0, f0⟩, ⟨u1, f1⟩, ⟨u2, f2⟩, ⟨u3, f3⟩, ⟨u4, f4⟩, ⟨u5, f5⟩⟩ := item_cells HI6.out
     dsimp only [itemV]
     go_wp2_with fail
     go_meet
     case rel =>
     obtain ⟨W2, hW2, g1, g2, g3, g4⟩ := item_stored w _ (r1, r2, r3, r4, r5, r6) _ _ _ _ _ _ _ HI6.out false HK6.out HB6.out HV6.out
     exact ⟨_, rfl, _, by rw [hW2]; exact g1, by rw [hW2]; exact g2, by rw [hW2]; exact g3, by rw [hW2]; exact g4⟩
  | none =>
   have hfb := HFV.out.2
   rw [hro] at hfb
   simp only [Option.isSome_none] at hfb
   subst hfb
   have hor := io hro
   have hc5 := ord_item (some ⟨bk, o, none⟩) c (x0 :: ws) it wc (Kd.C_below (by rw [HN.out]; exact HR.out) HB2.out) (by rw [HN.out]; exact HC.out.1) (GOk.below HG.out HB2.out) hor
   rw [HN.out] at hc5
   have HC5 := Aside0.mk hc5
   clear hc5 hor ik io hro
   go_wp2_with fail
   (with_reducible refine HC5.out.mono ?_)
   rintro e w6 he
   cases it with
   | none =>
    obtain ⟨rfl, hb6⟩ := he
    have hfin := HIT.out.2.2.2.1 rfl
    exact door_panic w _ _ (fun e w' h => by rw [hfin]; exact h) _ rfl rfl _ _ _ _ _ _ _ (blk_below HI2.out hb6) (blk_below HK2.out hb6) (below_step HB2.out hb6)
   | some r =>
    obtain ⟨r1, r2, r3, r4, r5, r6⟩ := r
    obtain ⟨v5, rfl, hv6, hb6⟩ := he
    have HI6 := Aside0.mk (blk_below HI2.out hb6)
    have HK6 := Aside0.mk (blk_below HK2.out hb6)
    have HB6 := Aside0.mk (below_step HB2.out hb6)
    have HV6 := Aside0.mk (R_low hv6 HB2.out.size)
    obtain ⟨A6, c6, rfl, -, -⟩ := Kd.R_reads hv6
    clear hb6 hv6
    obtain ⟨⟨u0, f0⟩, ⟨u1, f1⟩, ⟨u2, f2⟩, ⟨u3, f3⟩, ⟨u4, f4⟩, ⟨u5, f5⟩⟩ := item_cells HI6.out
    dsimp only [itemV]
    go_wp2_with fail
    go_meet
    case rel =>
    obtain ⟨W2, hW2, g1, g2, g3, g4⟩ := item_stored w _ (r1, r2, r3, r4, r5, r6) _ _ _ _ _ _ _ HI6.out false HK6.out HB6.out HV6.out
    exact ⟨_, rfl, _, by rw [hW2]; exact g1, by rw [hW2]; exact g2, by rw [hW2]; exact g3, by rw [hW2]; exact g4⟩
/-- What a line's words are; none: not covered. -/
def rdItem (s : ByteArray) : List ByteArray → Option (Option RI)
 | [] => none
 | x0 :: ws => if 0 < s.size ∧ x0.size ≤ 1000000 ∧ (x0 :: ws).length ≤ 100000000 then (if frontB s = true then some (labF (x0 :: ws)) else match rdOfW x0 with
  | some f => some (knownF (x0 :: ws) f)
  | none => ordF (x0 :: ws)) else none
def rdSeven (q : RI × Bool) : Int × ByteArray × Int × ByteArray × Int × List Int × Bool := (q.1.1, q.1.2.1, q.1.2.2.1, q.1.2.2.2.1, q.1.2.2.2.2.1, q.1.2.2.2.2.2, q.2)
def rdFin : Option RI → Option (RI × Bool)
 | none => some (rdZero, false)
 | some r => (source_may.f 1000 r.1 r.2.1 r.2.2.1 r.2.2.2.1 r.2.2.2.2.1 r.2.2.2.2.2).map fun b => if b = true then (r, true) else (rdZero, false)
def source_read.f (s : ByteArray) (l : List ByteArray) : Option (Int × ByteArray × Int × ByteArray × Int × List Int × Bool) := (rdItem s l).bind fun it => (rdFin it).map rdSeven
theorem source_read.calls (a0 : ByteArray) (A0 : Option Addr) (c0 : Nat) (l0 : List ByteArray) (r1 : Int) (r2 : ByteArray) (r3 : Int) (r4 : ByteArray) (r5 : Int) (r6 : List Int) (r7 : Bool) (w : World) (hr0 : Kd.C Kd.string w A0 l0.length l0) (hc0 : l0.length ≤ c0) (h : source_read.f a0 l0 = some (r1, r2, r3, r4, r5, r6, r7)) (hG : GOk w := by first | exact HG.out | exact GOk.below HG.out HB.out | exact GOk.below HG.out (by repeat (first | (with_reducible first | exact HB.out | apply below_alloc | apply pw_below_drewN | apply below_drew1 | refine below_set ?_ (Aside0.out (by assumption))) | exact HB.out))) :
 Calls Tryd.prog 31 #[.string a0, .slice A0 l0.length c0] w fun e w' => ∃ v5_ : Value, e = .returned (.tuple #[.agg #[.int .u8 r1, .string r2, .int .i64 r3, .string r4, .int .u8 r5, v5_], .bool r7]) ∧ Kd.R (Kd.int .u8) 5 w' w.heap.size (fun _ => True) v5_ r6 ∧ Below w.heap.size w w' := by
 unfold source_read.f at h
 obtain ⟨it, hit, h⟩ := Option.bind_eq_some_iff.1 h
 obtain ⟨fin, hfin, h⟩ := Option.map_eq_some_iff.1 h
 match l0, hr0, hc0, hit with
 | x0 :: ws, hr0, hc0, hit =>
  by_cases hb : 0 < a0.size ∧ x0.size ≤ 1000000 ∧ (x0 :: ws).length ≤ 100000000
  ·replace hit : (if 0 < a0.size ∧ x0.size ≤ 1000000 ∧ (x0 :: ws).length ≤ 100000000 then (if frontB a0 = true then some (labF (x0 :: ws)) else match rdOfW x0 with
    | some f => some (knownF (x0 :: ws) f)
    | none => ordF (x0 :: ws)) else none) = some it := hit
   rw [if_pos hb] at hit
   refine (rd_x a0 hb.1 A0 c0 x0 ws w it fin (by omega) hb.2.2 hr0 hc0 hG ?_ ?_ ?_ ?_ ?_).mono ?_
   ·intro hF
    rw [if_pos hF] at hit
    exact Option.some.inj hit
   ·intro hF f hf
    rw [hF, if_neg Bool.false_ne_true, hf] at hit
    exact Option.some.inj hit
   ·intro hF hf
    rw [hF, if_neg Bool.false_ne_true, hf] at hit
    exact hit
   ·rintro rfl
    exact (Option.some.inj hfin).symm
   ·rintro r rfl
    obtain ⟨b, hb1, hb2⟩ := Option.map_eq_some_iff.1 hfin
    exact ⟨b, hb1, hb2.symm⟩
   ·rintro e w' ⟨v5, he, hv, hbw⟩
    obtain ⟨⟨q1, q2, q3, q4, q5, q6⟩, q7⟩ := fin
    simp only [rdSeven, Prod.mk.injEq] at h
    obtain ⟨rfl, rfl, rfl, rfl, rfl, rfl, rfl⟩ := h
    exact ⟨v5, he, hv, hbw⟩
  ·replace hit : (if 0 < a0.size ∧ x0.size ≤ 1000000 ∧ (x0 :: ws).length ≤ 100000000 then (if frontB a0 = true then some (labF (x0 :: ws)) else match rdOfW x0 with
    | some f => some (knownF (x0 :: ws) f)
    | none => ordF (x0 :: ws)) else none) = some it := hit
   rw [if_neg hb] at hit
   cases hit
end Go.Proofs.YtjedbamcjgabpaaDoor.PSo
