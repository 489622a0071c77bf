/- tape.Read: so many bytes out of waves, or what is wrong and where. Condition: the variable errors.errorType holds what the program lays into it. -/
import Derived.Test.YtdibgdiiamcmfaaDoorTapeByte
import Derived.Test.YtdibgdiiamcmfaaDoorTapeAs
import Derived.Test.YtdibgdiiamcmfaaDoorTapeApp
set_option linter.unusedVariables false
set_option linter.unusedSimpArgs false
namespace Go.Proofs.YtdibgdiiamcmfaaDoor.Reader
open Go.RowKit
open Go.Proofs.YtdibgdiiamcmfaaDoorW.PrintWords Go.Proofs.YtdibgdiiamcmfaaDoor.PTape Go.Proofs.YtdibgdiiamcmfaaDoor.As Go.Proofs.YtdibgdiiamcmfaaDoor.App
attribute [local go_sem ↓ high] appG_eq

/-- errors.errorType holds the type error. -/
def GOk (w : World) : Prop := w.cell? ⟨0, 0, none⟩ = some (.iface 91 (.agg #[.pointer (some ⟨1, 61, none⟩)]))
theorem GOk.below {w W : World} (h : GOk w) (hb : Below w.heap.size w W) : GOk W := pw_cell_below hb h

/-- So many bytes. -/
def readM (l : List S37) : Nat → Nat → List Int → Except (Int × Int) (List Int)
  | 0, _, acc => .ok acc
  | n + 1, i, acc => match byteM l i with
    | .error e => .error e
    | .ok (b, j) => readM l n j (acc ++ [b])

def ReadPost (w : World) (R : Except (Int × Int) (List Int)) (e : Ending) (w' : World) : Prop :=
  Below w.heap.size w w' ∧ match R with
    | .error (k, i) => e = .returned (.tuple #[.slice none 0 0, .int .i64 k, .int .i64 i])
    | .ok bs => ∃ v, e = .returned (.tuple #[v, .int .i64 0, .int .i64 0]) ∧ Kd.R (Kd.int .u8) 5 w' w.heap.size (fun _ => True) v bs

theorem R_keep {n0 g : Nat} {w w1 : World} {base : Nat} {v : Value} {bs : List Int} {cs : Array Value} (h : Kd.R (Kd.int .u8) 5 w base (fun _ => True) v bs) (hk : Keeps n0 g w w1) (hg : w.heap[g]? = some (.cells cs 59 (0, 0))) : Kd.R (Kd.int .u8) 5 w1 base (fun _ => True) v bs :=
  Kd.R_mono (Kd.R_keep (Kd.R_types h hg (by intro q hq; simp [Kd.int, Kd.scalar] at hq; subst hq; decide)) hk.2.2 (fun _ hk => hk.2)) (fun _ _ => trivial)

theorem below_mono {B B' : Nat} {w W : World} (h : Below B w W) (hB : B' ≤ B) : Below B' w W := ⟨h.os, h.tape, h.output, h.size, fun i hi => h.block i (by omega)⟩
theorem as_fault2 (a : Addr) (F n0 : Nat) (w : World) (hn : n0 ≤ F) (hF : w.heap[F]? = some (.cells #[.pointer none] 64 (0, 0))) (hg : GOk w) :
    Calls Tryd.prog 28 #[.iface 64 (.pointer (some a)), .iface 66 (.pointer (some ⟨F, 0, none⟩))] w
      fun e w' => e = .returned (.bool true) ∧ w'.heap[F]? = some (.cells #[.pointer (some a)] 64 (0, 0)) ∧ Keeps n0 F w w' := by
  have hl := blk_lt hF
  refine (as_fault a ⟨F, 0, none⟩ w _ ((blk_cell hF 0).trans rfl) (blk_frozen hF 0) hg).mono ?_
  rintro e w' ⟨rfl, W, rfl, hb⟩
  refine ⟨rfl, blk_put ((hb.block F hl).trans hF) 0 _ rfl, Keeps.set ⟨by omega, below_mono hb (by omega), KeepBut.of_below hb _ _⟩ hn 0 _⟩

set_option maxRecDepth 100000 in
set_option maxHeartbeats 4000000 in
theorem read_calls (A : Option Addr) (c : Nat) (l : List S37) (n : Nat) (w : World) (hr0 : Kd.C k37 w A l.length l) (hc0 : l.length ≤ c) (hn : n ≤ 16384) (hG : GOk w) (R : Except (Int × Int) (List Int)) (hR : readM l n 0 [] = R) :
    Calls Tryd.prog 15 #[.slice A l.length c, .int .i64 n] w (ReadPost w R) := by
  have HR0 := Lib.hid hr0
  have HF := Lib.hid hR
  have HG := Lib.hid hG
  clear hr0 hR hG
  go_enter Tryd.func15, Tryd.ntmps15
  go_wp2
  go_loopg [8, 22] n (fun gk v8 v22 wr => ∃ (i : Nat) (acc : List Int), gk ≤ n ∧ v22 = .int .i64 ((n - gk : Nat) : Int) ∧ i ≤ l.length ∧ acc.length ≤ n - gk ∧ Aside0 (Below w.heap.size w wr) ∧ Aside0 (At A c l w.heap.size i wr) ∧ Aside0 (Kd.R (Kd.int .u8) 5 wr w.heap.size (fun _ => True) v8 acc) ∧ Aside0 (readM l gk i acc = R))
  case atStart =>
    refine ⟨0, [], Nat.le_refl _, by simp, by omega, by simp, ⟨(Below.refl _ w).alloc (Nat.le_refl _) _⟩, ⟨World.alloc_heap_new w _⟩, ⟨Kd.R_nil _ _ _ _ _⟩, ⟨HF.out⟩⟩
  case round =>
    obtain ⟨i, acc, hgn, rfl, hil, hal, HB, HA, HO, HL⟩ := hrel
    cases gk with
    | zero =>
      have hfin : R = .ok acc := by rw [← HL.out]; rfl
      have HFIN := Lib.hid hfin
      clear hfin
      simp only [Nat.sub_zero]
      go_wp2
      go_ret3
      rw [HFIN.out]
      exact ⟨HB.out, _, rfl, HO.out⟩
    | succ gk =>
      obtain ⟨k, hk⟩ : ∃ k : Nat, k = n - (gk + 1) := ⟨_, rfl⟩
      rw [← hk]
      have hkn : k < n := by omega
      have hk4 : ((n - gk : Nat) : Int) = (k : Int) + 1 := by omega
      have HK4 := Lib.hid hk4
      have HNK : Hid (n - gk = k + 1) := Lib.hid (by omega)
      have hal2 : acc.length ≤ k := by omega
      clear hk hk4 hal
      have HC := Lib.hid (byte_calls A c l w.heap.size i w wr HR0.out hc0 HB.out (Nat.le_refl _) HA.out hil _ rfl)
      cases hx : byteM l i with
      | error e =>
        obtain ⟨ek, ei⟩ := e
        rw [hx] at HC
        have HX := Lib.hid hx
        clear hx
        go_wp2_with (go_at_call 27; refine HC.out.mono ?_; rintro e w' ⟨hK2, v, rfl, q, rfl, hq⟩; have HK2 := Lib.hid hK2; have HQ := Lib.hid hq; clear hK2 hq)
        have hql := blk_lt HQ.out
        have hqb := blk_alloc HQ.out (.cells #[.pointer none] 64)
        have hws : w.heap.size ≤ w'.heap.size := by have := HB.out.size; have := HK2.out.2.2.1; omega
        have HB1 : Hid (Below w.heap.size w (w'.alloc (.cells #[.pointer none] 64))) := Lib.hid ((HB.out.trans HK2.out.2.1).alloc hws _)
        have HAS := Lib.hid (as_fault2 ⟨q, 0, none⟩ w'.heap.size w.heap.size _ hws (World.alloc_heap_new w' _) (HG.out.below HB1.out))
        refine HAS.out.mono ?_
        rintro e w2 ⟨rfl, hf2, hk2⟩
        have hq2 := hk2.blk hqb (by omega)
        have hc0 : w2.cell? ⟨w'.heap.size, 0, none⟩ = some (.pointer (some ⟨q, 0, none⟩)) := (blk_cell hf2 0).trans rfl
        have hc1 : w2.cell? ⟨q, 0, none⟩ = some (.int .i64 ek) := (blk_cell hq2 0).trans rfl
        have hc2 : w2.cell? ⟨q, 1, none⟩ = some (.int .i64 ei) := (blk_cell hq2 1).trans rfl
        have HB2 : Hid (Below w.heap.size w w2) := Lib.hid (HB1.out.trans hk2.2.1)
        have hfin : R = .error (ek, ei) := by rw [← HL.out, readM, HX.out]
        have HFIN := Lib.hid hfin
        clear hfin hk2 hq2 hf2 hqb HAS HC
        go_wp2
        go_region
        all_goals
          go_wp2
          go_ret3
          rw [HFIN.out]
          refine ⟨?_, rfl⟩
          (repeat (first | exact HB2.out | apply below_drew1))
      | ok bj =>
        obtain ⟨b, j⟩ := bj
        rw [hx] at HC
        have HX := Lib.hid hx
        clear hx
        go_wp2_with (go_at_call 27; refine HC.out.mono ?_; rintro e w' ⟨hK2, rfl, hA2, hjl⟩; have HK2 := Lib.hid hK2; have HA2 := Lib.hid hA2; clear hK2 hA2)
        have hnil := as_nil
        have hws : w.heap.size ≤ w'.heap.size := by have := HB.out.size; have := HK2.out.2.2.1; omega
        have HR2 : Hid (readM l gk j (acc ++ [b]) = R) := Lib.hid (by rw [← HL.out, readM, HX.out])
        have HO2 : Hid (Kd.R (Kd.int .u8) 5 w' w.heap.size (fun _ => True) u8 acc) := Lib.hid (R_keep HO.out HK2.out HA.out)
        refine (as_nil _ _).mono ?_
        rintro e w2 ⟨rfl, rfl⟩
        have hlen : acc.length + 1 ≤ 20000 := by omega
        obtain ⟨g', cap, w1, hrun, hRA, hgr⟩ := kd_app1 (P := Tryd.prog) (Value.int .u8) (fun _ => rfl) (W := w'.alloc (.cells #[.pointer none] 64)) w.heap.size 23 5 (.int .u8 0) 1 Tryd.underlying23 info5 rfl (by decide) u8 acc b (Kd.R_alloc HO2.out _) (by rw [World.size_alloc]; omega) (by omega)
        rw [World.size_alloc] at hrun
        have hA3 : At A c l w.heap.size j w1 := blk_grown (blk_alloc HA2.out (.cells #[.pointer none] 64)) hgr (Kd.R_ne HO2.out HA2.out (by decide))
        have HA3 := Lib.hid hA3
        have HRA := Lib.hid hRA
        have HB3 : Hid (Below w.heap.size w w1) := Lib.hid (((HB.out.trans HK2.out.2.1).alloc hws _).grown hgr (by rw [World.size_alloc]; omega) (fun k e => by
          rcases Kd.R_base2 HO2.out with h | ⟨k', h, hle⟩
          · rw [h] at e; cases e
          · rw [h] at e; cases e; exact hle))
        clear hnil HC hA3 hRA hgr hlen
        go_wp2
        go_roundg gk
        case measure => omega
        case rel => exact ⟨j, acc ++ [b], by omega, by rw [HK4.out], hjl, by rw [HNK.out, List.length_append]; simp; omega, ⟨HB3.out⟩, ⟨HA3.out⟩, ⟨HRA.out⟩, ⟨HR2.out⟩⟩
end Go.Proofs.YtdibgdiiamcmfaaDoor.Reader
