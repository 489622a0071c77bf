/- tape.bitsOf: the iterator over a byte's ten bits, for every loop body that keeps what lay ahead. No condition. -/
import Derived.RangeFuncNested
import Derived.RangeFuncBound
import Derived.RangeFuncCalls
import Derived.RangeFuncLeaves
import Derived.RangeFuncBox
import Derived.Shelf.Abstract
import Derived.Shelf.RegionOpen
import Derived.WalkKit
import Derived.OwnWalkIn
import Derived.TacticsInMore
import Derived.LoopNIn
import Derived.LoopIn
import Derived.Maps.AppendAt
import Derived.Lib.Hide
import Derived.Test.YtdibgdiiamcmfaaDoorProg
set_option linter.unusedVariables false
set_option linter.unusedSimpArgs false
namespace Go.Proofs.YtdibgdiiamcmfaaDoor.Bits
open Go.RowKit Go.Shelf
attribute [local go_sem] Oper.semAt_some

def bitB (b : Int) (k : Nat) : Bool := bits BinOp.and IntKind.u8 (b / 2 ^ k) 1 == 1
def bitsOf (b : Int) : List Bool := (List.range 8).map (bitB b)
def odds (l : List Bool) : Bool := l.foldl (fun o x => if x then !o else o) true
def tenOf (b : Int) : List Bool := true :: bitsOf b ++ [odds (bitsOf b)]

theorem bits_len (b : Int) : (bitsOf b).length = 8 := by simp [bitsOf]
theorem take_next (b : Int) (k : Nat) (h : k < 8) : (bitsOf b).take (k + 1) = (bitsOf b).take k ++ [bitB b k] := by
  rw [List.take_succ_eq_append_getElem (by rw [bits_len]; exact h)]
  simp [bitsOf]
theorem odds_next (l : List Bool) (x : Bool) : odds (l ++ [x]) = if x then !(odds l) else odds l := by simp [odds]

/-- The block Bn stays. -/
def Kb (Bn : Nat) (W W' : World) : Prop := W'.heap[Bn]? = W.heap[Bn]?
theorem Kb.cell {Bn : Nat} {W W' : World} (h : Kb Bn W W') : W'.cell? ⟨Bn, 0, none⟩ = W.cell? ⟨Bn, 0, none⟩ := World.cell?_of_block h

set_option maxRecDepth 100000 in
set_option maxHeartbeats 1000000 in
theorem bits1_in (F : Fence) (n : Nat) (h32 : F.fn 32) (hro : F.round = none) (hn : 1 ≤ n) (l Bn : Nat) (b : Int) (hb0 : 0 ≤ b) (hb1 : b < 256) (J Jx : List Bool → World → Prop)
    (hY : ∀ pre x W, J pre W → pre.length < 10 → YieldAt F (n - 1) Tryd.prog l #[.bool x] W fun e W' =>
      (e = .returned (.bool true) ∧ J (pre ++ [x]) W' ∧ Kb Bn W W') ∨ (e = .returned (.bool false) ∧ Jx (pre ++ [x]) W'))
    (W : World) (hBn : W.cell? ⟨Bn, 0, none⟩ = some (.int .u8 b)) (h0 : J [] W) :
    CallsIn F n Tryd.prog 32 #[.func (.yield l) #[] #[], .pointer (some ⟨Bn, 0, none⟩)] W fun e W' => (∃ v, e = .returned v) ∧
      ((∃ ys, ys = tenOf b ∧ J ys W') ∨ (∃ pre, pre <+: tenOf b ∧ Jx pre W')) := by
  refine callsIn_of_wp Tryd.func32 rfl h32 ?_ hro
  simp only [Tryd.ntmps32, List.size_toArray, List.length_cons, List.length_nil, Nat.reduceAdd, Nat.reduceSub, Array.replicate_succ, Array.replicate_zero, List.push_toArray, List.append_toArray, List.nil_append, List.cons_append]
  obtain ⟨fn, tmps, assign, body, hy, hR⟩ := hY [] true W h0 (by simp)
  gi_wp2
  refine hR.mono ?_
  rintro e W1 (⟨rfl, hJ1, hk1⟩ | ⟨rfl, hJx1⟩)
  · have hB1 : W1.cell? ⟨Bn, 0, none⟩ = some (.int .u8 b) := hk1.cell.trans hBn
    clear hBn hk1 hy hR h0
    gi_wp2
    gi_loopw [3, 4, 5, 9] (fun v3 v4 v5 v9 wr => ∃ k : Nat, k ≤ 8 ∧ v9 = .int .i64 k ∧ v3 = .bool (odds ((bitsOf b).take k)) ∧ wr.cell? ⟨Bn, 0, none⟩ = some (.int .u8 b) ∧ J (true :: (bitsOf b).take k) wr) (fun _ _ _ v9 _ => 8 - (intOf v9).toNat)
    case atStart => exact ⟨0, by omega, rfl, rfl, hB1, hJ1⟩
    case round =>
      obtain ⟨k, hk, rfl, rfl, hc, hJ⟩ := hrel
      have hl : (true :: (bitsOf b).take k).length = k + 1 := by simp [bits_len]; omega
      by_cases h8 : k < 8
      · obtain ⟨fn, tmps, assign, body, hy, hR⟩ := hY (true :: (bitsOf b).take k) (bitB b k) wr hJ (by omega)
        have hn1 := odds_next ((bitsOf b).take k) (bitB b k)
        have ht1 := take_next b k h8
        rw [← ht1] at hn1
        have HN := Lib.hid hn1
        have hp1 : true :: (bitsOf b).take k ++ [bitB b k] <+: tenOf b := by
          refine ⟨(bitsOf b).drop (k + 1) ++ [odds (bitsOf b)], ?_⟩
          simp only [tenOf, List.cons_append, ← List.append_assoc]
          rw [← ht1, List.take_append_drop]
        have HT := Lib.hid ht1
        have HP := Lib.hid hp1
        clear hn1 ht1 hY hl hp1
        cases hx : bitB b k
        all_goals
          have hx' : (bits BinOp.and IntKind.u8 (b / 2 ^ k) 1 == 1) = _ := hx
          rw [hx] at hy hR
          have HX := Lib.hid hx
          clear hx
          gi_wp2
          refine hR.mono ?_
          rintro e W3 (⟨rfl, hJ3, hk3⟩ | ⟨rfl, hJx3⟩)
          · have hB3 : W3.cell? ⟨Bn, 0, none⟩ = some (.int .u8 b) := hk3.cell.trans hc
            gi_wp2
            go_roundw
            case rel => exact ⟨k + 1, by omega, by go_num, by rw [HN.out, HX.out]; rfl, hB3, by rw [HT.out, HX.out]; exact hJ3⟩
            case measure => simp [intOf]; omega
          · gi_wp2
            refine bodyPost_ret (results_none rfl _ _ _) rfl ?_
            have h2 := HP.out
            rw [HX.out] at h2
            exact ⟨⟨_, rfl⟩, .inr ⟨_, h2, hJx3⟩⟩
      · obtain rfl : k = 8 := by omega
        have ht8 : (bitsOf b).take 8 = bitsOf b := List.take_of_length_le (by rw [bits_len]; omega)
        rw [ht8] at hJ
        obtain ⟨fn, tmps, assign, body, hy, hR⟩ := hY (true :: bitsOf b) (odds (bitsOf b)) wr hJ (by simp [bits_len])
        rw [ht8]
        clear hl ht8 hY
        gi_wp2
        refine hR.mono ?_
        rintro e W3 (⟨rfl, hJ3, hk3⟩ | ⟨rfl, hJx3⟩)
        · gi_wp2
          go_end0
          exact ⟨⟨_, rfl⟩, .inl ⟨_, rfl, hJ3⟩⟩
        · gi_wp2
          go_end0
          exact ⟨⟨_, rfl⟩, .inr ⟨_, ⟨[], by simp [tenOf]⟩, hJx3⟩⟩
  · gi_wp2
    refine bodyPost_ret (results_none rfl _ _ _) rfl ?_
    exact ⟨⟨_, rfl⟩, .inr ⟨[true], ⟨bitsOf b ++ [odds (bitsOf b)], rfl⟩, hJx1⟩⟩

theorem bits_in (F : Fence) (n : Nat) (h25 : F.fn 25) (hro : F.round = none) (b : Int) (w : World) :
    CallsIn F n Tryd.prog 25 #[.int .u8 b] w fun e w' => e = .returned (.func (.func 32) #[] #[.pointer (some ⟨w.heap.size, 0, none⟩)]) ∧ w' = w.alloc (.cells #[.int .u8 b] 5) := by
  refine callsIn_of_wp Tryd.func25 rfl h25 ?_ hro
  simp only [Tryd.ntmps25, List.size_toArray, List.length_cons, List.length_nil, Nat.reduceAdd, Nat.reduceSub, Array.replicate_succ, Array.replicate_zero, List.push_toArray, List.append_toArray, List.nil_append, List.cons_append]
  gi_wp2
  go_ret
  exact ⟨rfl, rfl⟩

theorem bits_stops (F : Fence) (n : Nat) (h32 : F.fn 32) (hro : F.round = none) (hn : 1 ≤ n) (Bn : Nat) (b : Int) (hb0 : 0 ≤ b) (hb1 : b < 256) (w : World) (hBn : Bn < w.heap.size) (hc : w.cell? ⟨Bn, 0, none⟩ = some (.int .u8 b)) :
    SeqStopsK F n Tryd.prog 32 #[.pointer (some ⟨Bn, 0, none⟩)] (fun x : Bool => #[Value.bool x]) (Kb Bn) (fun ys => ys = tenOf b) (fun pre => pre <+: tenOf b) 10 w := fun l J Jx W hW _ _ hY h0 =>
  bits1_in F n h32 hro hn l Bn b hb0 hb1 J Jx hY W ((hW.cell (p := ⟨Bn, 0, none⟩) hBn).trans hc) h0
theorem kb_t {Bn : Nat} {A B C : World} (h : Kb Bn A B) (k : Kb Bn B C) : Kb Bn A C := Eq.trans k h
theorem kb_b {Bn : Nat} {w : World} (hBn : Bn < w.heap.size) (W : World) (l : Nat) (o o' : Obj) (hl : w.heap.size ≤ l) (_ : W.heap[l]? = some o) (_ : o.isCells = false) (_ : o.isWalk = false) : Kb Bn W (W.putObj l o') :=
  World.putObj_heap_other (by omega)
end Go.Proofs.YtdibgdiiamcmfaaDoor.Bits
