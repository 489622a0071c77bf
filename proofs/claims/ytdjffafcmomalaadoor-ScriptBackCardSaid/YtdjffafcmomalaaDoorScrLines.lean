/- script.lines: the iterator over a text's lines, which keeps the rest in a variable of its own. -/
import Derived.RangeFuncNested
import Derived.RangeFuncBound
import Derived.RangeFuncCalls
import Derived.RangeFuncLeaves
import Derived.RangeFuncBox
import Derived.Shelf.Abstract
import Derived.Shelf.RegionOpen
import Derived.WalkKit
import Derived.OwnWalkIn
import Derived.TacticsInMore
import Derived.LoopNIn
import Derived.LoopIn
import Derived.Maps.AppendAt
import Derived.Lib.Hide
import Derived.Lib.SplitLaws
import Derived.Test.YtdjffafcmomalaaDoorScrReadC
set_option linter.unusedVariables false
set_option linter.unusedSimpArgs false
namespace Go.Proofs.YtdjffafcmomalaaDoor.Scr
open Go Go.RowKit
attribute [local go_sem] Oper.semAt_some

/-- A text's first line, the rest, and whether the line ends. -/
def line1L : List UInt8 → List UInt8 × List UInt8 × Bool
  | [] => ([], [], false)
  | c :: l => if c = 10 then ([], l, true) else (c :: (line1L l).1, (line1L l).2.1, (line1L l).2.2)
theorem cut_line : ∀ l : List UInt8, Lib.cut l [10] = line1L l
  | [] => by simp [Lib.cut, Lib.index, line1L]
  | c :: l => by
    have ih := cut_line l
    unfold line1L
    by_cases h : c = 10
    · subst h
      rw [if_pos rfl]
      have hp : ([10] : List UInt8).isPrefixOf (10 :: l) = true := by simp [List.isPrefixOf]
      have hix : Lib.index ((10 : UInt8) :: l) [10] = 0 := by rw [Lib.index, if_pos hp]
      unfold Lib.cut
      rw [hix]
      simp
    · rw [if_neg h, ← ih]
      have hp : ([10] : List UInt8).isPrefixOf (c :: l) = false := by simp [List.isPrefixOf]; exact fun e => h e.symm
      have hix : Lib.index (c :: l) [10] = if Lib.index l [10] == -1 then -1 else Lib.index l [10] + 1 := by rw [Lib.index, hp]; simp
      have hge := Lib.index_ge l [10]
      unfold Lib.cut
      rw [hix]
      by_cases hm : Lib.index l [10] = -1
      · rw [hm]; simp
      · rw [if_neg (fun e => hm (beq_iff_eq.1 e)), if_pos (by omega), if_pos (by omega)]
        obtain ⟨j, hj⟩ : ∃ j : Nat, Lib.index l [10] = j := ⟨(Lib.index l [10]).toNat, by omega⟩
        rw [hj]
        have e1 : ((j : Int) + 1).toNat = j + 1 := by omega
        rw [e1, Int.toNat_natCast]
        simp
theorem line1_rest : ∀ l : List UInt8, l ≠ [] → (line1L l).2.1.length < l.length
  | [], h => (h rfl).elim
  | c :: l, _ => by
    unfold line1L
    split
    · simp
    · by_cases h : l = []
      · subst h; simp [line1L]
      · have := line1_rest l h
        simp only [List.length_cons]; omega
theorem line1_size : ∀ l : List UInt8, (line1L l).1.length ≤ l.length
  | [] => Nat.le_refl _
  | c :: l => by
    have := line1_size l
    unfold line1L
    split
    · simp
    · simp only [List.length_cons]; omega
def linesF : Nat → List UInt8 → List (ByteArray × Bool)
  | 0, _ => []
  | k + 1, l => if l = [] then [] else (⟨(line1L l).1.toArray⟩, (line1L l).2.2) :: linesF k (line1L l).2.1
def linesL (l : List UInt8) : List (ByteArray × Bool) := linesF l.length l
theorem linesF_more : ∀ (k m : Nat) (l : List UInt8), l.length ≤ k → l.length ≤ m → linesF k l = linesF m l
  | 0, 0, _, _, _ => rfl
  | 0, m + 1, l, h, _ => by
    obtain rfl : l = [] := List.length_eq_zero_iff.1 (by omega)
    simp [linesF]
  | k + 1, 0, l, _, h => by
    obtain rfl : l = [] := List.length_eq_zero_iff.1 (by omega)
    simp [linesF]
  | k + 1, m + 1, l, h1, h2 => by
    unfold linesF
    by_cases h : l = []
    · rw [if_pos h, if_pos h]
    · have := line1_rest l h
      rw [if_neg h, if_neg h, linesF_more k m _ (by omega) (by omega)]
theorem linesL_nil : linesL [] = [] := rfl
theorem linesL_step (l : List UInt8) (h : l ≠ []) : linesL l = (⟨(line1L l).1.toArray⟩, (line1L l).2.2) :: linesL (line1L l).2.1 := by
  have hr := line1_rest l h
  unfold linesL
  cases l with
  | nil => exact (h rfl).elim
  | cons c l =>
    rw [List.length_cons] at hr ⊢
    rw [linesF, if_neg h, linesF_more l.length _ _ (by omega) (Nat.le_refl _)]

/-- The block Bn stays. -/
def Kb (Bn : Nat) (W W' : World) : Prop := W'.heap[Bn]? = W.heap[Bn]?
/-- A step of the iterator's own: a draw, or a new rest. -/
def Turn (Bn : Nat) (W W' : World) : Prop := (∃ n, W' = W.drewN n) ∨ ∃ t : ByteArray, W' = W.setCell ⟨Bn, 0, none⟩ (.string t)
def restLen (Bn : Nat) (W : World) : Nat := match W.cell? ⟨Bn, 0, none⟩ with
  | some (.string t) => t.size
  | _ => 0
theorem restLen_box {Bn : Nat} {W : World} {t : ByteArray} (h : Boxed W Bn 9 (.string t)) : restLen Bn W = t.size := by unfold restLen; rw [h.cell]

theorem cut_calls (rest : List UInt8) (hl : rest.length ≤ 70000) (m : Int) (w : World) (hm : w.cell? ⟨0, 0, none⟩ = some (.int .i64 m)) :
    Calls Tryd.prog 61 #[.string ⟨rest.toArray⟩, .string ⟨#[10]⟩] w fun e w' => e = .returned (.tuple #[.string ⟨(line1L rest).1.toArray⟩, .string ⟨(line1L rest).2.1.toArray⟩, .bool (line1L rest).2.2]) ∧ ∃ n, w' = w.drewN n := by
  have h := Tryd.strings_Cut ⟨rest.toArray⟩ ⟨#[10]⟩ m w (by show rest.toArray.size < _; simp; omega) hm
  rw [show Lib.cut (⟨rest.toArray⟩ : ByteArray).data.toList (⟨#[10]⟩ : ByteArray).data.toList = line1L rest from by rw [← cut_line]] at h
  exact h

set_option maxRecDepth 100000 in
set_option maxHeartbeats 2000000 in
theorem lines1_in (n : Nat) (hn : 1 ≤ n) (l Bn : Nat) (text : List UInt8) (hlen : text.length ≤ 70000) (J Jx : List (ByteArray × Bool) → World → Prop)
    (hm : ∀ pre W, J pre W → ∃ m, W.cell? ⟨0, 0, none⟩ = some (.int .i64 m))
    (hst : ∀ pre W W', Turn Bn W W' → J pre W → J pre W')
    (hY : ∀ pre x W, J pre W → pre ++ [x] <+: linesL text → YieldAt Fence.wide (n - 1) Tryd.prog l #[.string x.1, .bool x.2] W fun e W' =>
      (e = .returned (.bool true) ∧ J (pre ++ [x]) W' ∧ Kb Bn W W') ∨ (e = .returned (.bool false) ∧ Jx (pre ++ [x]) W'))
    (W : World) (hBn : Boxed W Bn 9 (.string ⟨text.toArray⟩)) (h0 : J [] W) :
    CallsIn Fence.wide n Tryd.prog 60 #[.func (.yield l) #[] #[], .pointer (some ⟨Bn, 0, none⟩)] W fun e W' => (∃ v, e = .returned v) ∧
      (J (linesL text) W' ∨ (∃ pre, pre <+: linesL text ∧ Jx pre W')) := by
  refine callsIn_of_wp Tryd.func60 rfl trivial ?_ rfl
  simp only [Tryd.ntmps60, List.size_toArray, List.length_cons, List.length_nil, Nat.reduceAdd, Nat.reduceSub, Array.replicate_succ, Array.replicate_zero, List.push_toArray, List.append_toArray, List.nil_append, List.cons_append]
  gi_wp2
  gi_loopw [3] (fun v3 wr => Hid (∃ pre rest, Boxed wr Bn 9 (.string ⟨(rest : List UInt8).toArray⟩) ∧ J pre wr ∧ pre ++ linesL rest = linesL text ∧ rest.length ≤ 70000)) (fun _ wr => restLen Bn wr)
  case atStart => exact Lib.hid ⟨[], text, hBn, h0, rfl, hlen⟩
  case round =>
    obtain ⟨pre, rest, hb, hJ, hp, hr⟩ := hrel.out
    clear hrel
    have hc := hb.cell
    by_cases hne : rest = []
    · subst hne
      have hlst := linesL_nil
      rw [hlst, List.append_nil] at hp
      rw [hp] at hJ
      have HJ := Lib.hid hJ
      clear hlst hp hJ hb hr hY hm hst h0 hBn
      gi_wp2
      go_end0
      exact ⟨⟨_, rfl⟩, .inl HJ.out⟩
    · have hs := linesL_step rest hne
      have hlt := line1_rest rest hne
      have hte : ((⟨rest.toArray⟩ : ByteArray).toList == []) = false := str_ne _ [] (fun e => hne (by have := congrArg (fun b : ByteArray => b.data.toList) e; simpa using this))
      obtain ⟨m, hmx⟩ := hm pre wr hJ
      have HC := Lib.hid ((callsIn_wide (n := n - 1)).2 (cut_calls rest hr m wr hmx))
      obtain ⟨a, ha⟩ : ∃ a : ByteArray, a = ⟨(line1L rest).1.toArray⟩ := ⟨_, rfl⟩
      obtain ⟨r2, hr2⟩ : ∃ r2, r2 = (line1L rest).2.1 := ⟨_, rfl⟩
      obtain ⟨en, hen⟩ : ∃ en, en = (line1L rest).2.2 := ⟨_, rfl⟩
      rw [← ha, ← hr2, ← hen] at HC
      rw [← ha, ← hr2, ← hen] at hs
      rw [← hr2] at hlt
      obtain ⟨t, ht⟩ : ∃ t : ByteArray, t = ⟨rest.toArray⟩ := ⟨_, rfl⟩
      have hts : t.size = rest.length := by rw [ht]; show rest.toArray.size = _; simp
      rw [← ht] at HC hc hb hte
      obtain ⟨t2, ht2⟩ : ∃ t2 : ByteArray, t2 = ⟨r2.toArray⟩ := ⟨_, rfl⟩
      rw [← ht2] at HC
      have hpx : pre ++ [(a, en)] <+: linesL text := ⟨linesL r2, by rw [← hp, hs]; simp⟩
      have hp2 : (pre ++ [(a, en)]) ++ linesL r2 = linesL text := by rw [← hp, hs]; simp
      have HLT := Lib.hid hlt
      clear ha hr2 hen hs hp hmx
      have HT := Lib.hid ht
      have HT2 := Lib.hid ht2
      clear ht ht2 hne hlt
      have HJ := Lib.hid hJ
      have HP := Lib.hid hp2
      have HPX := Lib.hid hpx
      have HB := Lib.hid hb
      have HY := Lib.hid hY
      have HST := Lib.hid hst
      clear hY hst hJ hp2 hpx hb h0 hBn hm
      have CC := HC.out
      gi_wp2_with (refine ⟨trivial, ?_⟩; gi_at_call 61; (with_reducible refine CC.mono ?_); rintro e w' ⟨rfl, nd, rfl⟩)
      clear CC HC
      obtain ⟨fn, tmps, assign, body, hy, hR⟩ := HY.out pre (a, en) (wr.drewN nd) (HST.out _ _ _ (.inl ⟨nd, rfl⟩) HJ.out) HPX.out
      gi_wp2
      refine hR.mono ?_
      rintro e W3 (⟨rfl, hJ3, hk3⟩ | ⟨rfl, hJx3⟩)
      · have hb3 : Boxed W3 Bn 9 (.string t) := Eq.trans hk3 HB.out
        have hc3 := hb3.cell
        have hf3 := hb3.frozen
        have HB3 := Lib.hid hb3
        have HJ3 := Lib.hid (HST.out _ _ _ (.inr ⟨t2, rfl⟩) hJ3)
        clear hb3 hJ3 hk3 hy hR
        gi_wp2
        go_roundw
        case rel => exact Lib.hid ⟨_, r2, by rw [← HT2.out]; exact HB3.out.set _, HJ3.out, HP.out, by have := HLT.out; omega⟩
        case measure =>
          rw [restLen_box (HB3.out.set (.string t2)), restLen_box HB.out]
          have h1 := HLT.out
          have h2 := HT.out
          have h3 : t2.size = r2.length := by rw [HT2.out]; show r2.toArray.size = _; simp
          omega
      · clear hy hR
        gi_wp2
        refine bodyPost_ret (results_none rfl _ _ _) rfl ?_
        exact ⟨⟨_, rfl⟩, .inr ⟨_, HPX.out, hJx3⟩⟩

theorem lines_in (n : Nat) (t : ByteArray) (w : World) :
    CallsIn Fence.wide n Tryd.prog 42 #[.string t] w fun e w' => e = .returned (.func (.func 60) #[] #[.pointer (some ⟨w.heap.size, 0, none⟩)]) ∧ w' = w.alloc (.cells #[.string t] 9) := by
  refine callsIn_of_wp Tryd.func42 rfl trivial ?_ rfl
  simp only [Tryd.ntmps42, List.size_toArray, List.length_cons, List.length_nil, Nat.reduceAdd, Nat.reduceSub, Array.replicate_succ, Array.replicate_zero, List.push_toArray, List.append_toArray, List.nil_append, List.cons_append]
  gi_wp2
  go_ret
  exact ⟨rfl, rfl⟩
end Go.Proofs.YtdjffafcmomalaaDoor.Scr
