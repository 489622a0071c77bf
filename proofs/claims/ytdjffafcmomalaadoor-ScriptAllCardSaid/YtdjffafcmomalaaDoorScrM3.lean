/- Texts of the Script seat, one behind another: ScrLines, ScrRange, ScrParseL, ScrParse, ScrC. -/
import Derived.RangeFuncNested
import Derived.RangeFuncBound
import Derived.RangeFuncCalls
import Derived.RangeFuncLeaves
import Derived.RangeFuncBox
import Derived.Shelf.Abstract
import Derived.Shelf.RegionOpen
import Derived.WalkKit
import Derived.OwnWalkIn
import Derived.TacticsInMore
import Derived.LoopNIn
import Derived.LoopIn
import Derived.Maps.AppendAt
import Derived.Lib.Hide
import Derived.Lib.SplitLaws
import Derived.Test.YtdjffafcmomalaaDoorScrM2
import Derived.Sort.CutIn
import Derived.Sort.QuietTacIn
import Derived.WalkMore
import Derived.Stop.RegionWithIn
/- script.lines: the iterator over a text's lines, which keeps the rest in a variable of its own. -/
set_option linter.unusedVariables false
set_option linter.unusedSimpArgs false
namespace Go.Proofs.YtdjffafcmomalaaDoor.Scr
open Go Go.RowKit
attribute [local go_sem] Oper.semAt_some

/-- A text's first line, the rest, and whether the line ends. -/
def line1L : List UInt8 → List UInt8 × List UInt8 × Bool
  | [] => ([], [], false)
  | c :: l => if c = 10 then ([], l, true) else (c :: (line1L l).1, (line1L l).2.1, (line1L l).2.2)
theorem cut_line : ∀ l : List UInt8, Lib.cut l [10] = line1L l
  | [] => by simp [Lib.cut, Lib.index, line1L]
  | c :: l => by
    have ih := cut_line l
    unfold line1L
    by_cases h : c = 10
    · subst h
      rw [if_pos rfl]
      have hp : ([10] : List UInt8).isPrefixOf (10 :: l) = true := by simp [List.isPrefixOf]
      have hix : Lib.index ((10 : UInt8) :: l) [10] = 0 := by rw [Lib.index, if_pos hp]
      unfold Lib.cut
      rw [hix]
      simp
    · rw [if_neg h, ← ih]
      have hp : ([10] : List UInt8).isPrefixOf (c :: l) = false := by simp [List.isPrefixOf]; exact fun e => h e.symm
      have hix : Lib.index (c :: l) [10] = if Lib.index l [10] == -1 then -1 else Lib.index l [10] + 1 := by rw [Lib.index, hp]; simp
      have hge := Lib.index_ge l [10]
      unfold Lib.cut
      rw [hix]
      by_cases hm : Lib.index l [10] = -1
      · rw [hm]; simp
      · rw [if_neg (fun e => hm (beq_iff_eq.1 e)), if_pos (by omega), if_pos (by omega)]
        obtain ⟨j, hj⟩ : ∃ j : Nat, Lib.index l [10] = j := ⟨(Lib.index l [10]).toNat, by omega⟩
        rw [hj]
        have e1 : ((j : Int) + 1).toNat = j + 1 := by omega
        rw [e1, Int.toNat_natCast]
        simp
theorem line1_rest : ∀ l : List UInt8, l ≠ [] → (line1L l).2.1.length < l.length
  | [], h => (h rfl).elim
  | c :: l, _ => by
    unfold line1L
    split
    · simp
    · by_cases h : l = []
      · subst h; simp [line1L]
      · have := line1_rest l h
        simp only [List.length_cons]; omega
theorem line1_size : ∀ l : List UInt8, (line1L l).1.length ≤ l.length
  | [] => Nat.le_refl _
  | c :: l => by
    have := line1_size l
    unfold line1L
    split
    · simp
    · simp only [List.length_cons]; omega
def linesF : Nat → List UInt8 → List (ByteArray × Bool)
  | 0, _ => []
  | k + 1, l => if l = [] then [] else (⟨(line1L l).1.toArray⟩, (line1L l).2.2) :: linesF k (line1L l).2.1
def linesL (l : List UInt8) : List (ByteArray × Bool) := linesF l.length l
theorem linesF_more : ∀ (k m : Nat) (l : List UInt8), l.length ≤ k → l.length ≤ m → linesF k l = linesF m l
  | 0, 0, _, _, _ => rfl
  | 0, m + 1, l, h, _ => by
    obtain rfl : l = [] := List.length_eq_zero_iff.1 (by omega)
    simp [linesF]
  | k + 1, 0, l, _, h => by
    obtain rfl : l = [] := List.length_eq_zero_iff.1 (by omega)
    simp [linesF]
  | k + 1, m + 1, l, h1, h2 => by
    unfold linesF
    by_cases h : l = []
    · rw [if_pos h, if_pos h]
    · have := line1_rest l h
      rw [if_neg h, if_neg h, linesF_more k m _ (by omega) (by omega)]
theorem linesL_nil : linesL [] = [] := rfl
theorem linesL_step (l : List UInt8) (h : l ≠ []) : linesL l = (⟨(line1L l).1.toArray⟩, (line1L l).2.2) :: linesL (line1L l).2.1 := by
  have hr := line1_rest l h
  unfold linesL
  cases l with
  | nil => exact (h rfl).elim
  | cons c l =>
    rw [List.length_cons] at hr ⊢
    rw [linesF, if_neg h, linesF_more l.length _ _ (by omega) (Nat.le_refl _)]

/-- The block Bn stays. -/
def Kb (Bn : Nat) (W W' : World) : Prop := W'.heap[Bn]? = W.heap[Bn]?
/-- A step of the iterator's own: a draw, or a new rest. -/
def Turn (Bn : Nat) (W W' : World) : Prop := (∃ n, W' = W.drewN n) ∨ ∃ t : ByteArray, W' = W.setCell ⟨Bn, 0, none⟩ (.string t)
def restLen (Bn : Nat) (W : World) : Nat := match W.cell? ⟨Bn, 0, none⟩ with
  | some (.string t) => t.size
  | _ => 0
theorem restLen_box {Bn : Nat} {W : World} {t : ByteArray} (h : Boxed W Bn 9 (.string t)) : restLen Bn W = t.size := by unfold restLen; rw [h.cell]

theorem cut_calls (rest : List UInt8) (hl : rest.length ≤ 70000) (m : Int) (w : World) (hm : w.cell? ⟨0, 0, none⟩ = some (.int .i64 m)) :
    Calls Tryd.prog 61 #[.string ⟨rest.toArray⟩, .string ⟨#[10]⟩] w fun e w' => e = .returned (.tuple #[.string ⟨(line1L rest).1.toArray⟩, .string ⟨(line1L rest).2.1.toArray⟩, .bool (line1L rest).2.2]) ∧ ∃ n, w' = w.drewN n := by
  have h := Tryd.strings_Cut ⟨rest.toArray⟩ ⟨#[10]⟩ m w (by show rest.toArray.size < _; simp; omega) hm
  rw [show Lib.cut (⟨rest.toArray⟩ : ByteArray).data.toList (⟨#[10]⟩ : ByteArray).data.toList = line1L rest from by rw [← cut_line]] at h
  exact h

set_option maxRecDepth 100000 in
set_option maxHeartbeats 2000000 in
theorem lines1_in (n : Nat) (hn : 1 ≤ n) (l Bn : Nat) (text : List UInt8) (hlen : text.length ≤ 70000) (J Jx : List (ByteArray × Bool) → World → Prop)
    (hm : ∀ pre W, J pre W → ∃ m, W.cell? ⟨0, 0, none⟩ = some (.int .i64 m))
    (hst : ∀ pre W W', Turn Bn W W' → J pre W → J pre W')
    (hY : ∀ pre x W, J pre W → pre ++ [x] <+: linesL text → YieldAt Fence.wide (n - 1) Tryd.prog l #[.string x.1, .bool x.2] W fun e W' =>
      (e = .returned (.bool true) ∧ J (pre ++ [x]) W' ∧ Kb Bn W W') ∨ (e = .returned (.bool false) ∧ Jx (pre ++ [x]) W'))
    (W : World) (hBn : Boxed W Bn 9 (.string ⟨text.toArray⟩)) (h0 : J [] W) :
    CallsIn Fence.wide n Tryd.prog 60 #[.func (.yield l) #[] #[], .pointer (some ⟨Bn, 0, none⟩)] W fun e W' => (∃ v, e = .returned v) ∧
      (J (linesL text) W' ∨ (∃ pre, pre <+: linesL text ∧ Jx pre W')) := by
  refine callsIn_of_wp Tryd.func60 rfl trivial ?_ rfl
  simp only [Tryd.ntmps60, List.size_toArray, List.length_cons, List.length_nil, Nat.reduceAdd, Nat.reduceSub, Array.replicate_succ, Array.replicate_zero, List.push_toArray, List.append_toArray, List.nil_append, List.cons_append]
  gi_wp2
  gi_loopw [3] (fun v3 wr => Hid (∃ pre rest, Boxed wr Bn 9 (.string ⟨(rest : List UInt8).toArray⟩) ∧ J pre wr ∧ pre ++ linesL rest = linesL text ∧ rest.length ≤ 70000)) (fun _ wr => restLen Bn wr)
  case atStart => exact Lib.hid ⟨[], text, hBn, h0, rfl, hlen⟩
  case round =>
    obtain ⟨pre, rest, hb, hJ, hp, hr⟩ := hrel.out
    clear hrel
    have hc := hb.cell
    by_cases hne : rest = []
    · subst hne
      have hlst := linesL_nil
      rw [hlst, List.append_nil] at hp
      rw [hp] at hJ
      have HJ := Lib.hid hJ
      clear hlst hp hJ hb hr hY hm hst h0 hBn
      gi_wp2
      go_end0
      exact ⟨⟨_, rfl⟩, .inl HJ.out⟩
    · have hs := linesL_step rest hne
      have hlt := line1_rest rest hne
      have hte : ((⟨rest.toArray⟩ : ByteArray).toList == []) = false := str_ne _ [] (fun e => hne (by have := congrArg (fun b : ByteArray => b.data.toList) e; simpa using this))
      obtain ⟨m, hmx⟩ := hm pre wr hJ
      have HC := Lib.hid ((callsIn_wide (n := n - 1)).2 (cut_calls rest hr m wr hmx))
      obtain ⟨a, ha⟩ : ∃ a : ByteArray, a = ⟨(line1L rest).1.toArray⟩ := ⟨_, rfl⟩
      obtain ⟨r2, hr2⟩ : ∃ r2, r2 = (line1L rest).2.1 := ⟨_, rfl⟩
      obtain ⟨en, hen⟩ : ∃ en, en = (line1L rest).2.2 := ⟨_, rfl⟩
      rw [← ha, ← hr2, ← hen] at HC
      rw [← ha, ← hr2, ← hen] at hs
      rw [← hr2] at hlt
      obtain ⟨t, ht⟩ : ∃ t : ByteArray, t = ⟨rest.toArray⟩ := ⟨_, rfl⟩
      have hts : t.size = rest.length := by rw [ht]; show rest.toArray.size = _; simp
      rw [← ht] at HC hc hb hte
      obtain ⟨t2, ht2⟩ : ∃ t2 : ByteArray, t2 = ⟨r2.toArray⟩ := ⟨_, rfl⟩
      rw [← ht2] at HC
      have hpx : pre ++ [(a, en)] <+: linesL text := ⟨linesL r2, by rw [← hp, hs]; simp⟩
      have hp2 : (pre ++ [(a, en)]) ++ linesL r2 = linesL text := by rw [← hp, hs]; simp
      have HLT := Lib.hid hlt
      clear ha hr2 hen hs hp hmx
      have HT := Lib.hid ht
      have HT2 := Lib.hid ht2
      clear ht ht2 hne hlt
      have HJ := Lib.hid hJ
      have HP := Lib.hid hp2
      have HPX := Lib.hid hpx
      have HB := Lib.hid hb
      have HY := Lib.hid hY
      have HST := Lib.hid hst
      clear hY hst hJ hp2 hpx hb h0 hBn hm
      have CC := HC.out
      gi_wp2_with (refine ⟨trivial, ?_⟩; gi_at_call 61; (with_reducible refine CC.mono ?_); rintro e w' ⟨rfl, nd, rfl⟩)
      clear CC HC
      obtain ⟨fn, tmps, assign, body, hy, hR⟩ := HY.out pre (a, en) (wr.drewN nd) (HST.out _ _ _ (.inl ⟨nd, rfl⟩) HJ.out) HPX.out
      gi_wp2
      refine hR.mono ?_
      rintro e W3 (⟨rfl, hJ3, hk3⟩ | ⟨rfl, hJx3⟩)
      · have hb3 : Boxed W3 Bn 9 (.string t) := Eq.trans hk3 HB.out
        have hc3 := hb3.cell
        have hf3 := hb3.frozen
        have HB3 := Lib.hid hb3
        have HJ3 := Lib.hid (HST.out _ _ _ (.inr ⟨t2, rfl⟩) hJ3)
        clear hb3 hJ3 hk3 hy hR
        gi_wp2
        go_roundw
        case rel => exact Lib.hid ⟨_, r2, by rw [← HT2.out]; exact HB3.out.set _, HJ3.out, HP.out, by have := HLT.out; omega⟩
        case measure =>
          rw [restLen_box (HB3.out.set (.string t2)), restLen_box HB.out]
          have h1 := HLT.out
          have h2 := HT.out
          have h3 : t2.size = r2.length := by rw [HT2.out]; show r2.toArray.size = _; simp
          omega
      · clear hy hR
        gi_wp2
        refine bodyPost_ret (results_none rfl _ _ _) rfl ?_
        exact ⟨⟨_, rfl⟩, .inr ⟨_, HPX.out, hJx3⟩⟩

theorem lines_in (n : Nat) (t : ByteArray) (w : World) :
    CallsIn Fence.wide n Tryd.prog 42 #[.string t] w fun e w' => e = .returned (.func (.func 60) #[] #[.pointer (some ⟨w.heap.size, 0, none⟩)]) ∧ w' = w.alloc (.cells #[.string t] 9) := by
  refine callsIn_of_wp Tryd.func42 rfl trivial ?_ rfl
  simp only [Tryd.ntmps42, List.size_toArray, List.length_cons, List.length_nil, Nat.reduceAdd, Nat.reduceSub, Array.replicate_succ, Array.replicate_zero, List.push_toArray, List.append_toArray, List.nil_append, List.cons_append]
  gi_wp2
  go_ret
  exact ⟨rfl, rfl⟩
end Go.Proofs.YtdjffafcmomalaaDoor.Scr
/- A range over script.lines: the loop's law for an iterator that writes a variable of its own (the rest of the text). -/
set_option linter.unusedVariables false
set_option linter.unusedSimpArgs false
namespace Go.Proofs.YtdjffafcmomalaaDoor.Scr
open Go Go.RowKit

/-- A change of one block that is no row of cells and lies behind n₀. -/
def Other (n₀ : Nat) (W W' : World) : Prop := ∃ k o o', n₀ ≤ k ∧ W.heap[k]? = some o ∧ o.isCells = false ∧ W' = W.putObj k o'
theorem turn_same {Bn : Nat} {W W' : World} (h : Turn Bn W W') (k : Nat) (o : Obj) (hB : ∃ c, W.heap[Bn]? = some c ∧ c.isCells = true) (hk : W.heap[k]? = some o) (ho : o.isCells = false) : W'.heap[k]? = some o := by
  rcases h with ⟨n, rfl⟩ | ⟨t, rfl⟩
  · exact hk
  · have hne : k ≠ Bn := fun e => by
      obtain ⟨c, hc, hcc⟩ := hB
      rw [e, hc] at hk; cases hk; rw [hcc] at ho; cases ho
    exact (Below.heap_setCell W ⟨Bn, 0, none⟩ _ k hne).trans hk

theorem range_lines (n : Nat) (h2 : 2 ≤ n) {g : Operand} {ps : Array Tmp} {assign body : Code} {Q : Exit → Act → World → Prop} {a : Act} {w : World} (hps : ps.size = 2)
    (Bn : Nat) (text : List UInt8) (hlen : text.length ≤ 70000) (hg : a.eval g = .func (.func 60) #[] #[.pointer (some ⟨Bn, 0, none⟩)]) (hBn : Boxed w Bn 9 (.string ⟨text.toArray⟩))
    (I : List (ByteArray × Bool) → World → Prop) (Ix : Code → List (ByteArray × Bool) → World → Prop)
    (hI : ∀ pre W W', Other w.heap.size W W' → I pre W → I pre W') (hIx : ∀ c pre W W', Other w.heap.size W W' → Ix c pre W → Ix c pre W')
    (hturn : ∀ pre W W', Turn Bn W W' → I pre W → I pre W') (hbox : ∀ pre W, I pre W → ∃ c, W.heap[Bn]? = some c ∧ c.isCells = true)
    (hm : ∀ pre W, I pre W → ∃ m, W.cell? ⟨0, 0, none⟩ = some (.int .i64 m))
    (h0 : ∀ o o', I [] ((w.alloc o).alloc o')) (a₁ : ByteArray × Bool → Act)
    (hassign : ∀ (l : Nat) (x : ByteArray × Bool) (W : World) (K : Act → World → Prop), K (a₁ x) W →
      assign.wpIn (Fence.wide.inRound l) (n - 1 - 1) Tryd.prog (Exit.then K (fun _ _ _ => False)) { tmps := (ps.zip #[.string x.1, .bool x.2]).foldl (fun t (p, v) => t.setIfInBounds p v) a.tmps, defers := [] } W)
    (hbody : ∀ (l : Nat) (pre : List (ByteArray × Bool)) (x : ByteArray × Bool) (W : World), I pre W → pre ++ [x] <+: linesL text → body.wpIn (Fence.wide.inRound l) (n - 1 - 1) Tryd.prog (ownPostG w.heap.size (Kb Bn) I Ix (pre ++ [x]) W) (a₁ x) W)
    (hdone : ∀ (D : Nat) (W : World), w.heap.size ≤ D → I (linesL text) W → W.heap[D]? = some (.deferred (some [])) → Q .normal { a with defers := { target := .collected D, args := #[] } :: a.defers } W)
    (hstop : ∀ (D : Nat) (c : Code) (pre : List (ByteArray × Bool)) (W : World), w.heap.size ≤ D → pre <+: linesL text → Ix c pre W → W.heap[D]? = some (.deferred (some [])) → c.wpIn Fence.wide n Tryd.prog Q { a with defers := { target := .collected D, args := #[] } :: a.defers } W) :
    (Code.rangeFunc g ps assign body).wpIn Fence.wide n Tryd.prog Q a w := by
  refine wpIn_rangeFunc fun fn hfn => ?_
  -- D: the block for the rounds' deferred calls; D + 1: the loop's record
  obtain ⟨D, hD⟩ : ∃ D, w.heap.size = D := ⟨_, rfl⟩
  obtain ⟨rec, hrec⟩ : ∃ rec : LoopState → Option Code → Loop, rec = fun st pe => { state := st, pending := pe, fn, tmps := a.tmps, params := ps, assign, body, defers := D } := ⟨_, rfl⟩
  obtain ⟨V, hV⟩ : ∃ V, (w.alloc (.deferred (some []))).alloc (.loop (rec .ready none)) = V := ⟨_, rfl⟩
  have vl : V.heap[D + 1]? = some (.loop (rec .ready none)) := by
    have := World.alloc_heap_new (w.alloc (.deferred (some []))) (.loop (rec .ready none))
    rw [World.size_alloc, hD] at this
    rw [← hV]; exact this
  have vd : V.heap[D]? = some (.deferred (some [])) := by
    rw [← hV, Below.heap_alloc _ _ _ (by rw [World.size_alloc]; omega), ← hD]
    exact World.alloc_heap_new w _
  have vb : Boxed V Bn 9 (.string ⟨text.toArray⟩) := by rw [← hV]; exact (hBn.alloc _).alloc _
  have run0 : (Instr.enterLoop fn a.tmps ps assign body Fence.wide.round).run Tryd.prog w = .ok (D + 1, [{ target := .collected D, args := #[] }]) V := by
    rw [← hV, hrec, ← hD]; exact run_enterLoop_outer _ _ _ _ _
  -- the two facts of the loop's own, kept by whatever leaves the blocks that are no cells
  have step : ∀ (st : LoopState) (pe : Option Code) (W W' : World), (∀ k o, D ≤ k → W.heap[k]? = some o → o.isCells = false → W'.heap[k]? = some o) →
      W.heap[D + 1]? = some (.loop (rec st pe)) ∧ W.heap[D]? = some (.deferred (some [])) → W'.heap[D + 1]? = some (.loop (rec st pe)) ∧ W'.heap[D]? = some (.deferred (some [])) :=
    fun st pe W W' h hl => ⟨h _ _ (by omega) hl.1 rfl, h _ _ (Nat.le_refl _) hl.2 rfl⟩
  have turned : ∀ (st st' : LoopState) (pe pe' : Option Code) (W : World), W.heap[D + 1]? = some (.loop (rec st pe)) ∧ W.heap[D]? = some (.deferred (some [])) →
      (W.putObj (D + 1) (.loop (rec st' pe'))).heap[D + 1]? = some (.loop (rec st' pe')) ∧ (W.putObj (D + 1) (.loop (rec st' pe'))).heap[D]? = some (.deferred (some [])) ∧ Other w.heap.size W (W.putObj (D + 1) (.loop (rec st' pe'))) :=
    fun st st' pe pe' W hl => ⟨World.putObj_heap_same (Array.getElem?_eq_some_iff.1 hl.1).1, (World.putObj_heap_other (by omega)).trans hl.2, ⟨D + 1, _, _, by omega, hl.1, rfl, rfl⟩⟩
  refine ⟨D + 1, [{ target := .collected D, args := #[] }], V, { target := .fn (.func 60) #[.pointer (some ⟨Bn, 0, none⟩)], args := #[.func (.yield (D + 1)) #[] #[]] }, V, 60,
    #[.func (.yield (D + 1)) #[] #[], .pointer (some ⟨Bn, 0, none⟩)], V, run0, ?_, fun _ _ => trivial, ?_, fun _ => by omega, ?_⟩
  · simp only [resolve, hg]; simp [go_sem]
  · have eg := enters_of Tryd.func60 (by kernel_rfl) rfl
    simp [invoke, go_sem, eg]
  · refine (lines1_in (n - 1) (by omega) (D + 1) Bn text hlen
      (fun pre W => I pre W ∧ W.heap[D + 1]? = some (.loop (rec .ready none)) ∧ W.heap[D]? = some (.deferred (some [])))
      (fun pre W => ∃ c, Ix c pre W ∧ W.heap[D + 1]? = some (.loop (rec .done (some c))) ∧ W.heap[D]? = some (.deferred (some [])))
      (fun pre W h => hm pre W h.1)
      (fun pre W W' ht h => ⟨hturn _ _ _ ht h.1, step _ _ _ _ (fun k o _ hk ho => turn_same ht k o (hbox _ _ h.1) hk ho) h.2⟩)
      ?_ V vb ⟨by rw [← hV]; exact h0 _ _, vl, vd⟩).mono ?_
    · rintro pre x W ⟨hi, hl⟩ hpre
      have hy := run_yield (P := Tryd.prog) (args := #[.string x.1, .bool x.2]) hl.1 (by rw [hrec]; exact hps.symm)
      rw [hrec] at hy
      refine ⟨fn, _, assign, body, hy, roundIn_of_wpIn hfn (hassign _ x W _ ⟨_, run_beginRound hl.1 (by rw [hrec]), ?_⟩)⟩
      have hrb : ({ rec .ready none with state := .busy } : Loop) = rec .busy none := by rw [hrec]
      rw [hrb]
      obtain ⟨b1, b2, b3⟩ := turned .ready .busy none none W hl
      have kb : ∀ (W : World) (o' : Obj), W.heap[D + 1]? ≠ none → Bn ≠ D + 1 → Kb Bn W (W.putObj (D + 1) o') := fun W o' _ hne => World.putObj_heap_other hne
      have hBne : Bn ≠ D + 1 := by have := hBn.lt; omega
      refine wpIn_mono (hbody _ pre x _ (hI _ _ _ b3 hi) hpre) ?_
      -- a round's end
      have fin : ∀ (jump : Option Code) (W3 : World), KeepsFrom w.heap.size (W.putObj (D + 1) (.loop (rec .busy none))) W3 →
          (Instr.endRound (D + 1) jump).run Tryd.prog W3 = .ok (.bool jump.isNone) (W3.putObj (D + 1) (.loop (rec (if jump.isNone then .ready else .done) jump))) ∧ W3.heap[D + 1]? = some (.loop (rec .busy none)) ∧ W3.heap[D]? = some (.deferred (some [])) := fun jump W3 hk => by
        have h3 := step .busy none _ W3 (fun k o hk' h ho => hk.same k o (by omega) h ho) ⟨b1, b2⟩
        have hr := run_endRound (P := Tryd.prog) jump h3.1
        rw [hrec] at hr h3 ⊢
        exact ⟨hr, h3.1, h3.2⟩
      rintro e a3 W3 hp
      cases e with
      | normal =>
        obtain ⟨hr, h3⟩ := fin none W3 hp.1
        obtain ⟨c1, c2, c3⟩ := turned .busy .ready none none W3 h3
        exact ⟨_, _, hr, .inl ⟨rfl, ⟨hI _ _ _ c3 hp.2.2, c1, c2⟩, Eq.trans (World.putObj_heap_other hBne) (Eq.trans hp.2.1 (World.putObj_heap_other hBne))⟩⟩
      | ret =>
        obtain ⟨hr, h3⟩ := fin (some .ret) W3 hp.1
        obtain ⟨c1, c2, c3⟩ := turned .busy .done none (some .ret) W3 h3
        exact ⟨_, _, hr, .inr ⟨rfl, .ret, hIx _ _ _ _ c3 hp.2, c1, c2⟩⟩
      | exit id =>
        obtain ⟨hr, h3⟩ := fin (some (.exit id)) W3 hp.1
        obtain ⟨c1, c2, c3⟩ := turned .busy .done none (some (.exit id)) W3 h3
        exact ⟨_, _, hr, .inr ⟨rfl, .exit id, hIx _ _ _ _ c3 hp.2, c1, c2⟩⟩
      | goto t =>
        obtain ⟨hr, h3⟩ := fin (some (.goto t)) W3 hp.1
        obtain ⟨c1, c2, c3⟩ := turned .busy .done none (some (.goto t)) W3 h3
        exact ⟨_, _, hr, .inr ⟨rfl, .goto t, hIx _ _ _ _ c3 hp.2, c1, c2⟩⟩
      | panic ch => exact hp.elim
      | outgrown => exact hp.elim
    · have ended : ∀ (st : LoopState) (pe : Option Code) (W : World), st ≠ .busy → W.heap[D + 1]? = some (.loop (rec st pe)) ∧ W.heap[D]? = some (.deferred (some [])) → ∃ W', (Instr.endLoop (D + 1)).run Tryd.prog W = .ok pe W' ∧ Other w.heap.size W W' ∧ W'.heap[D]? = some (.deferred (some [])) := fun st pe W hs hl => by
        have hr := run_endLoop (P := Tryd.prog) hl.1 (by rw [hrec]; exact hs)
        rw [hrec] at hr
        exact ⟨_, hr, ⟨D + 1, _, _, by omega, hl.1, rfl, rfl⟩, (World.putObj_heap_other (by omega)).trans hl.2⟩
      rintro e W2 ⟨⟨v, rfl⟩, (⟨hi, hl⟩ | ⟨pre, hpre, c, hi, hl⟩)⟩
      · obtain ⟨W3, hr, ho, hd⟩ := ended _ _ W2 (by simp) hl
        exact ⟨none, W3, hr, hdone _ _ (by omega) (hI _ _ _ ho hi) hd⟩
      · obtain ⟨W3, hr, ho, hd⟩ := ended _ _ W2 (by simp) hl
        exact ⟨some c, W3, hr, hstop _ c pre _ (by omega) hpre (hIx _ _ _ _ ho hi) hd⟩
end Go.Proofs.YtdjffafcmomalaaDoor.Scr
/- script.Parse: what it tells of a text, plain; and the two steps of a round that write. -/
set_option linter.unusedVariables false
set_option linter.unusedSimpArgs false
namespace Go.Proofs.YtdjffafcmomalaaDoor.Scr
open Go Go.RowKit
open Go.Proofs.YtdjffafcmomalaaDoorW.PrintWords Go.Proofs.YtdjffafcmomalaaDoor.PScr

/-- The rounds over a text's lines: the spans, the error, the line. -/
def scan : List (ByteArray × Bool) → Int → Int → List S34 → List S34 × Int × Int
  | [], _, _, acc => (acc, 0, 0)
  | x :: r, all, at_, acc => if ((readR x.1).2 && x.2) = false then ([], 71, at_ + 1) else if 4194304 < all + (readR x.1).1.f0 then ([], 70, at_ + 1) else scan r (all + (readR x.1).1.f0) (at_ + 1) (acc ++ [(readR x.1).1])
def countL (l : List UInt8) : Int := (Lib.countByte l 10 : Int) + (if l = [] ∨ Lib.hasSuffix l [10] = true then 0 else 1)
def parseR (l : List UInt8) : List S34 × Int × Int := if (65536 < l.length ∨ 4096 < countL l) then ([], 2, 0) else scan (linesL l) 0 0 []

def spansOf (pre : List (ByteArray × Bool)) : List S34 := pre.map fun x => (readR x.1).1
def sumOf (pre : List (ByteArray × Bool)) : Int := (spansOf pre).foldl (fun n s => n + s.f0) 0
theorem spansOf_snoc (pre : List (ByteArray × Bool)) (x : ByteArray × Bool) : spansOf (pre ++ [x]) = spansOf pre ++ [(readR x.1).1] := by simp [spansOf]
theorem sumOf_snoc (pre : List (ByteArray × Bool)) (x : ByteArray × Bool) : sumOf (pre ++ [x]) = sumOf pre + (readR x.1).1.f0 := by simp [sumOf, spansOf]
/-- The lines pre are all well, and the sum is within the bound. -/
def Well (pre : List (ByteArray × Bool)) : Prop := (∀ r, scan (pre ++ r) 0 0 [] = scan r (sumOf pre) pre.length (spansOf pre)) ∧ 0 ≤ sumOf pre ∧ sumOf pre ≤ 4194304
theorem Well.nil : Well [] := ⟨fun _ => rfl, by decide, by decide⟩
theorem Well.snoc {pre : List (ByteArray × Bool)} (h : Well pre) (x : ByteArray × Bool) (h1 : ((readR x.1).2 && x.2) = true) (h2 : sumOf pre + (readR x.1).1.f0 ≤ 4194304) : Well (pre ++ [x]) := by
  have h3 := (readR_ok x.1 (by simp only [Bool.and_eq_true] at h1; exact h1.1)).2.1
  refine ⟨fun r => ?_, ?_, ?_⟩
  · rw [List.append_assoc, h.1, spansOf_snoc, sumOf_snoc, List.length_append]
    show scan (x :: r) _ _ _ = _
    rw [scan, if_neg (by rw [h1]; decide), if_neg (by omega)]
    rfl
  · rw [sumOf_snoc]; have := h.2.1; omega
  · rw [sumOf_snoc]; exact h2
theorem Well.bad {pre : List (ByteArray × Bool)} (h : Well pre) (x : ByteArray × Bool) (h1 : ((readR x.1).2 && x.2) = false) (r : List (ByteArray × Bool)) : scan ((pre ++ [x]) ++ r) 0 0 [] = ([], 71, (((pre ++ [x]).length : Nat) : Int)) := by
  rw [List.append_assoc, h.1, List.length_append]
  show scan (x :: r) _ _ _ = _
  rw [scan, if_pos h1]; rfl
theorem Well.long {pre : List (ByteArray × Bool)} (h : Well pre) (x : ByteArray × Bool) (h1 : ((readR x.1).2 && x.2) = true) (h2 : 4194304 < sumOf pre + (readR x.1).1.f0) (r : List (ByteArray × Bool)) : scan ((pre ++ [x]) ++ r) 0 0 [] = ([], 70, (((pre ++ [x]).length : Nat) : Int)) := by
  rw [List.append_assoc, h.1, List.length_append]
  show scan (x :: r) _ _ _ = _
  rw [scan, if_neg (by rw [h1]; decide), if_pos h2]; rfl
theorem linesF_len : ∀ (k : Nat) (l : List UInt8), (linesF k l).length ≤ k
  | 0, _ => Nat.le_refl _
  | k + 1, l => by
    unfold linesF
    split
    · simp
    · have := linesF_len k (line1L l).2.1
      simp only [List.length_cons]; omega
theorem linesF_size : ∀ (k : Nat) (l : List UInt8) (m : Nat), l.length ≤ m → ∀ x ∈ linesF k l, x.1.size ≤ m
  | 0, _, _, _, x, hx => by cases hx
  | k + 1, l, m, hm, x, hx => by
    unfold linesF at hx
    split at hx
    · cases hx
    · rename_i hne
      rcases List.mem_cons.1 hx with rfl | hx
      · have := line1_size l
        show (line1L l).1.toArray.size ≤ m
        simp; omega
      · have := line1_rest l hne
        exact linesF_size k _ m (by omega) x hx

def cellsL (s : S34) : List Value := [.int .i64 s.f0, .int .u16 s.f1, .bool s.f2, .bool s.f3, .bool s.f4, .bool s.f5, .bool s.f6, .bool s.f7, .bool s.f8, .int .u8 s.f9]
def rowL (l : List S34) : List Value := l.flatMap cellsL
theorem rowL_snoc (l : List S34) (s : S34) : rowL (l ++ [s]) = rowL l ++ cellsL s := by simp [rowL]
/-- append, kept shut in a walk. -/
def appG (ts : Array TypeId) (t : TypeId) (xs : Array Value) : Sem Value := Builtin.append_ ts t xs
theorem appG_eq (ts : Array TypeId) (t : TypeId) (xs : Array Value) : Builtin.append_ ts t xs = appG ts t xs := rfl

def Out (n₀ B : Nat) (l : List S34) (W : World) : Prop := ∃ v, Boxed W B 23 v ∧ W.ownsRow n₀ 34 10 v l.length (rowL l) ∧ True
/-- One more span: the append, in the world in which it stands. -/
theorem more34 {n₀ B : Nat} {l : List S34} {W : World} {v : Value} (s : S34) (hv : Boxed W B 23 v) (hrow : W.ownsRow n₀ 34 10 v l.length (rowL l)) (hB : n₀ ≤ B) (hl : l.length + 1 ≤ 1000000) :
    ∃ g cap w1, (appG #[23, 23] 23 #[v, .slice (some ⟨W.heap.size, 0, none⟩) 1 1]).run Tryd.prog (W.alloc (.cells #[.int .i64 s.f0, .int .u16 s.f1, .bool s.f2, .bool s.f3, .bool s.f4, .bool s.f5, .bool s.f6, .bool s.f7, .bool s.f8, .int .u8 s.f9] 34)) = .ok (.slice (some ⟨g, 0, none⟩) (l.length + 1) cap) w1 ∧
      w1.cell? ⟨B, 0, none⟩ = some v ∧ w1.frozen? ⟨B, 0, none⟩ = false ∧
      Out n₀ B (l ++ [s]) (w1.setCell ⟨B, 0, none⟩ (.slice (some ⟨g, 0, none⟩) (l.length + 1) cap)) ∧
      KeepsOthers W (w1.setCell ⟨B, 0, none⟩ (.slice (some ⟨g, 0, none⟩) (l.length + 1) cap)) ∧
      Below n₀ W (w1.setCell ⟨B, 0, none⟩ (.slice (some ⟨g, 0, none⟩) (l.length + 1) cap)) ∧
      (∀ (Bn t' : Nat) (u : Value), Boxed W Bn t' u → t' ≠ 34 → Bn ≠ B → Kb Bn W (w1.setCell ⟨B, 0, none⟩ (.slice (some ⟨g, 0, none⟩) (l.length + 1) cap))) := by
  obtain ⟨i0, hi, hz0, hz1, hz2⟩ := info_parts info34
  have hBs : B < W.heap.size := hv.lt
  obtain ⟨tmp, htmp⟩ : ∃ tmp, Obj.cells #[.int .i64 s.f0, .int .u16 s.f1, .bool s.f2, .bool s.f3, .bool s.f4, .bool s.f5, .bool s.f6, .bool s.f7, .bool s.f8, .int .u8 s.f9] 34 = tmp := ⟨_, rfl⟩
  obtain ⟨v', w1, hrun, hown', hgrow, _, _⟩ := run_append_own_at (P := Tryd.prog) (W.alloc tmp) n₀ 23 23 34 i0 _ 10 _ Tryd.underlying23 hi hz0 hz1 hz2 rfl (by decide) v l.length (rowL l) (hrow.alloc _) ⟨W.heap.size, 0, none⟩ 1 1 (cellsL s) rfl
    (by
      intro j u hu
      have hb := World.alloc_heap_new W tmp
      rw [← htmp] at hb ⊢
      have hj : j < 10 := (List.getElem?_eq_some_iff.1 hu).1
      have ha : (⟨W.heap.size, 0, none⟩ : Addr).add j = ⟨W.heap.size, j, none⟩ := by unfold Addr.add; split <;> simp_all
      rw [ha, cell_of_row _ _ _ _ _ _ hb, ← hu]
      simp [cellsL])
    (by simp [Value.oneCell', cellsL]) (by simp only [maxLen]; omega) (by omega) (by rw [World.size_alloc]; omega)
  obtain ⟨g, cap, rfl⟩ := ownsRow_succ hown'
  rw [htmp]
  obtain ⟨h1, h2, h3, h4, h5⟩ := hv.appended (by decide) hrow (by omega) hB hown' hgrow
  refine ⟨g, cap, w1, hrun, h1.cell, h1.frozen, ⟨_, h2, ?_, trivial⟩, h4, h5, ?_⟩
  · rw [rowL_snoc, List.length_append]; exact h3
  · intro Bn t' u hb ht hne
    have hb2 : Boxed w1 Bn t' u := (hb.alloc _).kept hgrow (hb.not_row ht hrow)
    have hb3 : (w1.setCell ⟨B, 0, none⟩ (.slice (some ⟨g, 0, none⟩) (l.length + 1) cap)).heap[Bn]? = w1.heap[Bn]? := Below.heap_setCell w1 ⟨B, 0, none⟩ _ Bn hne
    exact hb3.trans (Eq.trans hb2 (Eq.symm hb))
end Go.Proofs.YtdjffafcmomalaaDoor.Scr
/- script.Parse: the whole contract, for every text of at most 281474976710656 bytes. -/
set_option linter.unusedVariables false
set_option linter.unusedSimpArgs false
namespace Go.Proofs.YtdjffafcmomalaaDoor.Scr
open Go Go.RowKit
open Go.Proofs.YtdjffafcmomalaaDoorW.PrintWords Go.Proofs.YtdjffafcmomalaaDoor.PScr
attribute [local go_sem] Oper.semAt_some
attribute [local go_sem ↓ high] appG_eq

/-- Ahead of a round: the lines pre were well. -/
structure Pre (w : World) (pre : List (ByteArray × Bool)) (W : World) : Prop where
  out : Out w.heap.size w.heap.size (spansOf pre) W
  wrong : Boxed W (w.heap.size + 1) 25 (.int .i64 0)
  at_ : Boxed W (w.heap.size + 2) 3 (.int .i64 pre.length)
  all : Boxed W (w.heap.size + 3) 3 (.int .i64 (sumOf pre))
  text : ∃ t, Boxed W (w.heap.size + 4) 9 (.string t)
  bel : Below w.heap.size w W
  well : Well pre
/-- Behind a round that ended the loop. -/
def Bad (w : World) (c : Code) (pre : List (ByteArray × Bool)) (W : World) : Prop := c = .exit 0 ∧ ∃ code : Int, code ≠ 0 ∧ Boxed W (w.heap.size + 1) 25 (.int .i64 code) ∧ Boxed W (w.heap.size + 2) 3 (.int .i64 pre.length) ∧ Below w.heap.size w W ∧ ∀ r, scan (pre ++ r) 0 0 [] = ([], code, ((pre.length : Nat) : Int))

theorem other_box {n₀ B : Nat} {t : TypeId} {u : Value} {W W' : World} (h : Other n₀ W W') (hb : Boxed W B t u) : Boxed W' B t u := by
  obtain ⟨k, o, o', hk, ho, hc, rfl⟩ := h
  have hne : B ≠ k := fun e => by
    have hb' : W.heap[k]? = _ := e ▸ hb
    rw [hb'] at ho; cases ho; cases hc
  exact (World.putObj_heap_other hne).trans hb
theorem other_bel {n₀ n : Nat} {w W W' : World} (h : Other n₀ W W') (hn : w.heap.size ≤ n₀) (hb : Below w.heap.size w W) : Below w.heap.size w W' := by
  obtain ⟨k, o, o', hk, ho, hc, rfl⟩ := h
  exact hb.trans ((Below.refl w.heap.size W).grown (grownBy_putObj' W k o') (by have := hb.size; omega) (fun i e => by cases e; omega))
theorem Pre.other {w : World} {n₀ : Nat} (hn : w.heap.size ≤ n₀) {pre : List (ByteArray × Bool)} {W W' : World} (h : Other n₀ W W') (p : Pre w pre W) : Pre w pre W' := by
  obtain ⟨⟨v, h1, h2, _⟩, h3, h4, h5, ⟨t, h6⟩, h7, h8⟩ := p
  refine ⟨⟨v, other_box h h1, ?_, trivial⟩, other_box h h3, other_box h h4, other_box h h5, ⟨t, other_box h h6⟩, other_bel (n := 0) h hn h7, h8⟩
  obtain ⟨k, o, o', hk, ho, hc, rfl⟩ := h
  exact ownsRow_putObj h2 _ ho hc
theorem Bad.other {w : World} {n₀ : Nat} (hn : w.heap.size ≤ n₀) {c : Code} {pre : List (ByteArray × Bool)} {W W' : World} (h : Other n₀ W W') (p : Bad w c pre W) : Bad w c pre W' := by
  obtain ⟨h1, code, h2, h3, h4, h5, h6⟩ := p
  exact ⟨h1, code, h2, other_box h h3, other_box h h4, other_bel (n := 0) h hn h5, h6⟩
theorem set_box {W : World} {B k : Nat} {t : TypeId} {u u' : Value} (h : Boxed W B t u) (hne : B ≠ k) : Boxed (W.setCell ⟨k, 0, none⟩ u') B t u := (Below.heap_setCell W ⟨k, 0, none⟩ u' B hne).trans h
theorem Pre.turn {w : World} {pre : List (ByteArray × Bool)} {W W' : World} (h : Turn (w.heap.size + 4) W W') (p : Pre w pre W) : Pre w pre W' := by
  rcases h with ⟨n, rfl⟩ | ⟨t', rfl⟩
  · exact ⟨p.out, p.wrong, p.at_, p.all, p.text, pw_below_drewN p.bel n, p.well⟩
  · obtain ⟨⟨v, h1, h2, _⟩, h3, h4, h5, ⟨t, h6⟩, h7, h8⟩ := p
    exact ⟨⟨v, set_box h1 (by omega), ownsRow_setCell_other h2 (fun e => h6.not_row (by decide) h2 e.symm) _, trivial⟩, set_box h3 (by omega), set_box h4 (by omega), set_box h5 (by omega), ⟨_, h6.set _⟩, h7.setCell (by show w.heap.size ≤ w.heap.size + 4; omega) _, h8⟩

theorem Pre.alloc {w : World} {pre : List (ByteArray × Bool)} {W : World} (p : Pre w pre W) (o : Obj) : Pre w pre (W.alloc o) := by
  obtain ⟨⟨v, h1, h2, _⟩, h3, h4, h5, ⟨t, h6⟩, h7, h8⟩ := p
  exact ⟨⟨v, h1.alloc _, h2.alloc _, trivial⟩, h3.alloc _, h4.alloc _, h5.alloc _, ⟨t, h6.alloc _⟩, h7.alloc h7.size _, h8⟩
theorem start (w : World) (t : ByteArray) : Pre w [] (((((w.alloc (.cells #[.slice none 0 0] 23)).alloc (.cells #[.int .i64 0] 25)).alloc (.cells #[.int .i64 0] 3)).alloc (.cells #[.int .i64 0] 3)).alloc (.cells #[.string t] 9)) := by
  have b0 := Boxed.new w 23 (.slice none 0 0)
  have b1 := Boxed.new (w.alloc (.cells #[.slice none 0 0] 23)) 25 (.int .i64 0)
  have b2 := Boxed.new ((w.alloc (.cells #[.slice none 0 0] 23)).alloc (.cells #[.int .i64 0] 25)) 3 (.int .i64 0)
  have b3 := Boxed.new (((w.alloc (.cells #[.slice none 0 0] 23)).alloc (.cells #[.int .i64 0] 25)).alloc (.cells #[.int .i64 0] 3)) 3 (.int .i64 0)
  have b4 := Boxed.new ((((w.alloc (.cells #[.slice none 0 0] 23)).alloc (.cells #[.int .i64 0] 25)).alloc (.cells #[.int .i64 0] 3)).alloc (.cells #[.int .i64 0] 3)) 9 (.string t)
  simp only [World.size_alloc] at b1 b2 b3 b4
  refine ⟨⟨_, (((b0.alloc _).alloc _).alloc _).alloc _, World.ownsRow_nil _ _ _ _, trivial⟩, ((b1.alloc _).alloc _).alloc _, (b2.alloc _).alloc _, b3.alloc _, ⟨t, b4⟩, ?_, Well.nil⟩
  refine ((((((Below.refl w.heap.size w).alloc (Nat.le_refl _) _).alloc ?_ _).alloc ?_ _).alloc ?_ _).alloc ?_ _)
  all_goals (simp only [World.size_alloc]; omega)
/-- Within a round that began in W0. -/
structure St (w : World) (sp : List S34) (wr at_ al : Int) (W0 W : World) : Prop where
  out : Out w.heap.size w.heap.size sp W
  wrong : Boxed W (w.heap.size + 1) 25 (.int .i64 wr)
  at_ : Boxed W (w.heap.size + 2) 3 (.int .i64 at_)
  all : Boxed W (w.heap.size + 3) 3 (.int .i64 al)
  text : ∃ t, Boxed W (w.heap.size + 4) 9 (.string t)
  bel : Below w.heap.size w W
  ko : KeepsOthers W0 W
  kb : Kb (w.heap.size + 4) W0 W
theorem Pre.st {w : World} {pre : List (ByteArray × Bool)} {W : World} (p : Pre w pre W) : St w (spansOf pre) 0 pre.length (sumOf pre) W W :=
  ⟨p.out, p.wrong, p.at_, p.all, p.text, p.bel, KeepsOthers.refl _, rfl⟩
theorem St.below {w : World} {sp : List S34} {wr at_ al : Int} {W0 W W' : World} (p : St w sp wr at_ al W0 W) (h : Below W.heap.size W W') : St w sp wr at_ al W0 W' := by
  obtain ⟨⟨v, h1, h2, _⟩, h3, h4, h5, ⟨t, h6⟩, h7, h8, h9⟩ := p
  have k : ∀ {B : Nat} {t : TypeId} {u : Value}, Boxed W B t u → Boxed W' B t u := fun hb => (h.block _ hb.lt).trans hb
  exact ⟨⟨v, k h1, pw_own_below h2 h, trivial⟩, k h3, k h4, k h5, ⟨t, k h6⟩, below_step h7 h, h8.trans ⟨h.size, fun i o hi _ => (h.block i (Array.getElem?_eq_some_iff.1 hi).1).trans hi⟩, (h.block _ h6.lt).trans h9⟩
theorem St.set {w : World} {sp : List S34} {wr at_ al : Int} {W0 W : World} (p : St w sp wr at_ al W0 W) (k : Nat) (hk : k = 1 ∨ k = 2 ∨ k = 3) (u : Value) :
    Out w.heap.size w.heap.size sp (W.setCell ⟨w.heap.size + k, 0, none⟩ u) ∧ (∃ t, Boxed (W.setCell ⟨w.heap.size + k, 0, none⟩ u) (w.heap.size + 4) 9 (.string t)) ∧ Below w.heap.size w (W.setCell ⟨w.heap.size + k, 0, none⟩ u) ∧ KeepsOthers W0 (W.setCell ⟨w.heap.size + k, 0, none⟩ u) ∧ Kb (w.heap.size + 4) W0 (W.setCell ⟨w.heap.size + k, 0, none⟩ u) := by
  obtain ⟨⟨v, h1, h2, _⟩, h3, h4, h5, ⟨t, h6⟩, h7, h8, h9⟩ := p
  have hb : ∃ t u, t ≠ 34 ∧ Boxed W (w.heap.size + k) t u := by
    rcases hk with rfl | rfl | rfl
    · exact ⟨_, _, by decide, h3⟩
    · exact ⟨_, _, by decide, h4⟩
    · exact ⟨_, _, by decide, h5⟩
  obtain ⟨t', u', ht, hb⟩ := hb
  exact ⟨⟨v, set_box h1 (by omega), ownsRow_setCell_other h2 (fun e => hb.not_row ht h2 e.symm) _, trivial⟩, ⟨t, set_box h6 (by omega)⟩, h7.setCell (Nat.le_add_right _ _) _, h8.trans (KeepsOthers.setCell W ⟨w.heap.size + k, 0, none⟩ u), (Below.heap_setCell W ⟨w.heap.size + k, 0, none⟩ u _ (by show w.heap.size + 4 ≠ w.heap.size + k; omega)).trans h9⟩
theorem St.setWrong {w : World} {sp : List S34} {wr at_ al : Int} {W0 W : World} (p : St w sp wr at_ al W0 W) (u : Int) : St w sp u at_ al W0 (W.setCell ⟨w.heap.size + 1, 0, none⟩ (.int .i64 u)) := by
  obtain ⟨a, b, c, d, e⟩ := p.set 1 (.inl rfl) (.int .i64 u)
  exact ⟨a, p.wrong.set _, set_box p.at_ (by omega), set_box p.all (by omega), b, c, d, e⟩
theorem St.setAt {w : World} {sp : List S34} {wr at_ al : Int} {W0 W : World} (p : St w sp wr at_ al W0 W) (u : Int) : St w sp wr u al W0 (W.setCell ⟨w.heap.size + 2, 0, none⟩ (.int .i64 u)) := by
  obtain ⟨a, b, c, d, e⟩ := p.set 2 (.inr (.inl rfl)) (.int .i64 u)
  exact ⟨a, set_box p.wrong (by omega), p.at_.set _, set_box p.all (by omega), b, c, d, e⟩
theorem St.setAll {w : World} {sp : List S34} {wr at_ al : Int} {W0 W : World} (p : St w sp wr at_ al W0 W) (u : Int) : St w sp wr at_ u W0 (W.setCell ⟨w.heap.size + 3, 0, none⟩ (.int .i64 u)) := by
  obtain ⟨a, b, c, d, e⟩ := p.set 3 (.inr (.inr rfl)) (.int .i64 u)
  exact ⟨a, set_box p.wrong (by omega), set_box p.at_ (by omega), p.all.set _, b, c, d, e⟩
theorem wpIn_scope {n : Nat} {P : Program} {c : Code} {Q : Exit → Act → World → Prop} {a : Act} {w : World} (h : c.wpIn Fence.wide n P (Exit.noGoto Q) a w) : (Code.scope c).wpIn Fence.wide n P Q a w := wpIn_wide.2 (wp_scope_straight (wpIn_wide.1 h))
theorem wpIn_label {n : Nat} {P : Program} {l : Nat} {Q : Exit → Act → World → Prop} {a : Act} {w : World} (h : Q .normal a w) : (Code.label l).wpIn Fence.wide n P Q a w := wpIn_wide.2 (wp_label h)

abbrev ParseR (t : ByteArray) (w : World) (e : Ending) (w' : World) : Prop := ∃ v, e = .returned (.tuple #[v, .int .i64 (parseR t.data.toList).2.1, .int .i64 (parseR t.data.toList).2.2]) ∧
      w'.ownsRow w.heap.size 34 10 v (parseR t.data.toList).1.length (rowL (parseR t.data.toList).1) ∧ Below w.heap.size w w'
theorem results23 (tmps : Array Value) (w : World) (x y z : Value) (hx : tmps.getD 2 undef = x) (hy : tmps.getD 3 undef = y) (hz : tmps.getD 4 undef = z) : (results Tryd.f23 tmps).run Tryd.prog w = .ok (.tuple #[x, y, z]) w := by
  subst hx hy hz
  exact results_tmp3 rfl _ _ _
theorem early {t : ByteArray} {w : World} (hp : parseR t.data.toList = ([], 2, 0)) (tmps : Array Value) (w' : World) (h2 : tmps.getD 2 undef = .slice none 0 0) (h3 : tmps.getD 3 undef = .int .i64 2) (h4 : tmps.getD 4 undef = .int .i64 0) (hw : w' = w) :
    Exit.noGoto (bodyPostM Fence.wide 5 Tryd.prog Tryd.f23 (ParseR t w)) Exit.ret { tmps := tmps, defers := [] } w' := by
  subst hw
  refine (⟨_, results23 tmps w' _ _ _ h2 h3 h4, .slice none 0 0, ?_, ?_, Below.refl _ _⟩ : ∃ v, (results Tryd.f23 tmps).run Tryd.prog w' = .ok v w' ∧ ParseR t w' (.returned v) w')
  · rw [hp]
  · rw [hp]; exact World.ownsRow_nil _ _ _ _

theorem late {t : ByteArray} {w : World} {l : List S34} {code at_ : Int} (hp : parseR t.data.toList = (l, code, at_)) (tmps : Array Value) (W : World) (D : Nat) (v : Value) (h2 : tmps.getD 2 undef = v) (h3 : tmps.getD 3 undef = .int .i64 code) (h4 : tmps.getD 4 undef = .int .i64 at_)
    (hD : w.heap.size ≤ D) (hd : W.heap[D]? = some (.deferred (some []))) (hrow : W.ownsRow w.heap.size 34 10 v l.length (rowL l)) (hb : Below w.heap.size w W) :
    Exit.noGoto (bodyPostM Fence.wide 5 Tryd.prog Tryd.f23 (ParseR t w)) Exit.ret { tmps := tmps, defers := [{ target := .collected D, args := #[] }] } W := by
  have e : LeavesInM Fence.wide 5 Tryd.prog Tryd.f23 tmps (ParseR t w) [{ target := .collected D, args := #[] }] .returning W := by
    refine ⟨by simp, .inl ⟨D, _, rfl, run_takeDeferred hd, ?_⟩⟩
    refine (⟨_, results23 tmps _ _ _ _ h2 h3 h4, v, ?_, ?_, hb.trans (belowK_b (w := w) (Nat.le_refl _) W D _ _ hD hd rfl rfl)⟩ : ∃ v, (results Tryd.f23 tmps).run Tryd.prog (W.putObj D (.deferred none)) = .ok v (W.putObj D (.deferred none)) ∧ ParseR t w (.returned v) (W.putObj D (.deferred none)))
    · rw [hp]
    · rw [hp]; exact ownsRow_putObj hrow _ hd rfl
  exact e

set_option maxRecDepth 100000 in
set_option maxHeartbeats 4000000 in
theorem parse_calls (t : ByteArray) (w : World) (hsz : t.size ≤ 281474976710656) (hG : GOk w) :
    Calls Tryd.prog 23 #[.string t] w fun e w' => ∃ v, e = .returned (.tuple #[v, .int .i64 (parseR t.data.toList).2.1, .int .i64 (parseR t.data.toList).2.2]) ∧
      w'.ownsRow w.heap.size 34 10 v (parseR t.data.toList).1.length (rowL (parseR t.data.toList).1) ∧ Below w.heap.size w w' := by
  refine (callsIn_wide (n := 5)).1 ?_
  refine callsIn_of_wp_marks Tryd.func23 rfl trivial ?_ rfl
  simp only [Tryd.ntmps23, List.size_toArray, List.length_cons, List.length_nil, Nat.reduceAdd, Nat.reduceSub, Array.replicate_succ, Array.replicate_zero, List.push_toArray, List.append_toArray, List.nil_append, List.cons_append]
  have HG := Lib.hid hG
  have HS := Lib.hid hsz
  have HC := Lib.hid ((callsIn_wide (n := 4)).2 (Tryd.strings_Count_one t 10 w))
  have HX := Lib.hid ((callsIn_wide (n := 4)).2 (Tryd.strings_HasSuffix t ⟨#[10]⟩ w (by omega)))
  obtain ⟨c0, hc0⟩ : ∃ c0 : Nat, Lib.countByte t.data.toList 10 = c0 := ⟨_, rfl⟩
  rw [hc0] at HC
  have hcb : c0 ≤ t.size := by rw [← hc0]; exact List.count_le_length
  clear hG hsz
  have CC := HC.out
  obtain ⟨sfx, hsfx⟩ : ∃ sfx, Lib.hasSuffix t.data.toList [10] = sfx := ⟨_, rfl⟩
  have CX := HX.out
  rw [hsfx] at CX
  have hb : Hid (countL t.data.toList = (c0 : Int) + (if (!(t.toList == []) && !sfx) = true then 1 else 0)) := by
    refine Lib.hid ?_
    have e : (t.data.toList = []) ↔ (t.toList == []) = true := by rw [beq_iff_eq, ByteArray.toList_eq]
    unfold countL
    rw [hc0, hsfx]
    simp only [e]
    cases (t.toList == []) <;> cases sfx <;> simp
  have HQ := Lib.hid hc0
  have HSF := Lib.hid hsfx
  have hcc : (c0 : Int) ≤ 281474976710656 := by have := HS.out; omega
  clear hc0 hsfx HC HX
  gi_wp2
  refine wpIn_scope ?_
  gi_upto_region 2 with (refine ⟨trivial, ?_⟩; gi_at_call 40; (with_reducible refine CC.mono ?_); rintro e w ⟨rfl, rfl⟩)
  gi_cut [22] from 66 (fun s22 wx => s22 = .bool (!(t.toList == []) && !sfx) ∧ wx = w)
  case first =>
    cases hte : (t.toList == [])
    · cases sfx
      · gi_wp2_with (refine ⟨trivial, ?_⟩; gi_at_call 41; (with_reducible refine CX.mono ?_); rintro e w ⟨rfl, rfl⟩)
        gi_meet
        case rel => exact ⟨by rw [hte]; rfl, rfl⟩
      · gi_wp2_with (refine ⟨trivial, ?_⟩; gi_at_call 41; (with_reducible refine CX.mono ?_); rintro e w ⟨rfl, rfl⟩)
        gi_meet
        case rel => exact ⟨by rw [hte]; rfl, rfl⟩
    · gi_wp2
      refine ⟨trivial, ?_⟩
      gi_wp2
      gi_meet
      case rel => exact ⟨by rw [hte]; rfl, rfl⟩
  case rest =>
    obtain ⟨rfl, rfl⟩ := hcut
    obtain ⟨b, hbb⟩ : ∃ b, (!(t.toList == []) && !sfx) = b := ⟨_, rfl⟩
    rw [hbb] at hb ⊢
    clear hbb CC CX
    gi_upto_if 22 with fail
    gi_cut [5] from 66 (fun s5 wx => s5 = .int .i64 (countL t.data.toList) ∧ wx = wc)
    case first =>
      cases b
      · gi_wp2
        gi_meet
        case rel => exact ⟨by rw [hb.out]; simp, rfl⟩
      · gi_wp2
        gi_meet
        case rel => exact ⟨by rw [hb.out]; go_num, rfl⟩
    case rest =>
      obtain ⟨rfl, rfl⟩ := hcut
      obtain ⟨cl, hcl⟩ : ∃ cl, countL t.data.toList = cl := ⟨_, rfl⟩
      have hlen : (t.data.toList.length : Int) = (t.size : Int) := by simp
      rw [hcl]
      have HCL := Lib.hid hcl
      have hpr : parseR t.data.toList = if (65536 < t.size ∨ 4096 < cl) then ([], 2, 0) else scan (linesL t.data.toList) 0 0 [] := by
        unfold parseR
        rw [hcl, show t.data.toList.length = t.size from by omega]
      have HPR := Lib.hid hpr
      clear hcl hpr hlen hb hcc
      by_cases hs : 65536 < t.size
      · have hp : parseR t.data.toList = ([], 2, 0) := by rw [HPR.out, if_pos (Or.inl hs)]
        have HP := Lib.hid hp
        have hsI : (65536 : Int) < (t.size : Int) := by omega
        clear hp HPR
        gi_wp2
        exact early HP.out _ _ (by rfl) (by rfl) (by rfl) (by rfl)
      · by_cases hs2 : 4096 < cl
        · have hp : parseR t.data.toList = ([], 2, 0) := by rw [HPR.out, if_pos (Or.inr hs2)]
          have HP := Lib.hid hp
          have hsI : ¬ (65536 : Int) < (t.size : Int) := by omega
          clear hp HPR
          gi_wp2
          exact early HP.out _ _ (by rfl) (by rfl) (by rfl) (by rfl)
        · have hp : parseR t.data.toList = scan (linesL t.data.toList) 0 0 [] := by rw [HPR.out, if_neg (by omega)]
          have hsI : ¬ (65536 : Int) < (t.size : Int) := by omega
          have HP := Lib.hid hp
          have hsz : t.size ≤ 65536 := by omega
          have HSZ := Lib.hid hsz
          clear hp HPR hs hsz
          gi_wp2
          refine wpIn_label ?_
          obtain ⟨w4, hw4⟩ : ∃ w4, ((((wc.alloc (Obj.cells #[Value.slice none 0 0] 23)).alloc (Obj.cells #[Value.int IntKind.i64 0] 25)).alloc (Obj.cells #[Value.int IntKind.i64 0] 3)).alloc (Obj.cells #[Value.int IntKind.i64 0] 3)) = w4 := ⟨_, rfl⟩
          rw [hw4]
          have HL := lines_in 4 t w4
          have s4 : w4.heap.size = wc.heap.size + 4 := by rw [← hw4]; simp
          gi_wp2_with (refine ⟨trivial, ?_⟩; gi_at_call 42; (with_reducible refine HL.mono ?_); rintro e w' ⟨rfl, rfl⟩)
          simp only [Nat.add_assoc, Nat.reduceAdd]
          have P0 : Pre wc [] (w4.alloc (.cells #[.string t] 9)) := by rw [← hw4]; exact start wc t
          have s5 : (w4.alloc (.cells #[.string t] 9)).heap.size = wc.heap.size + 5 := by rw [World.size_alloc, s4]
          have tb : Boxed (w4.alloc (.cells #[.string t] 9)) (wc.heap.size + 4) 9 (.string ⟨t.data.toList.toArray⟩) := by
            have := Boxed.new w4 9 (.string t)
            rw [s4] at this
            simpa using this
          have HW4 := Lib.hid hw4
          clear hw4 HL s4
          generalize w4.alloc (.cells #[.string t] 9) = w5 at P0 s5 tb ⊢
          have hle : wc.heap.size ≤ w5.heap.size := by omega
          refine range_lines 5 (by omega) (by rfl) (wc.heap.size + 4) t.data.toList (by have := HSZ.out; simp; omega) (by rfl) tb (Pre wc) (Bad wc)
            (fun pre W W' h p => p.other hle h) (fun c pre W W' h p => p.other hle h) (fun pre W W' h p => p.turn h) (fun pre W p => ⟨_, p.text.choose_spec, rfl⟩) (fun pre W p => (GOk.below HG.out p.bel).max)
            (fun o o' => (P0.alloc o).alloc o') (fun x => { tmps := #[.string t, undef, .slice none 0 0, .int .i64 0, .int .i64 0, .int .i64 cl, .pointer (some ⟨wc.heap.size, 0, none⟩), .pointer (some ⟨wc.heap.size + 1, 0, none⟩), .pointer (some ⟨wc.heap.size + 2, 0, none⟩), .pointer (some ⟨wc.heap.size + 3, 0, none⟩), .string x.1, .bool x.2, undef, undef, .string t, .int .i64 c0, u16, u17, u18, u19, u20, u21, .bool b, u23, u24, .string t, .int .i64 t.size, .bool false, .bool false, .int .i64 cl, .bool false, .bool false, .string t, .func (.func 60) #[] #[.pointer (some ⟨wc.heap.size + 4, 0, none⟩)], .string x.1, .bool x.2, undef, undef, undef, undef, undef, undef, undef, undef, undef, undef, undef, undef, undef, undef, undef, undef, undef, undef, undef, undef, undef, undef, undef, undef, undef, undef, undef, undef, undef, undef], defers := [] }) ?assign ?body ?done ?stop
          case assign =>
            intro l x W K hK
            gi_wp2
            exact hK
          case body =>
            intro l pre x W hp hpre
            obtain ⟨xl, en⟩ := x
            dsimp only
            have hmem : (xl, en) ∈ linesL t.data.toList := hpre.subset (by simp)
            have hxs : xl.size ≤ 70000 := by
              have := linesF_size _ t.data.toList t.data.toList.length (Nat.le_refl _) (xl, en) hmem
              have h2 := HSZ.out
              simp at this; omega
            have hpl : pre.length ≤ 65536 := by
              have h1 := hpre.length_le
              have h2 := linesF_len t.data.toList.length t.data.toList
              have h3 := HSZ.out
              simp at h1 h2
              have h4 : (linesL t.data.toList).length ≤ t.data.toList.length := linesF_len _ _
              simp at h4; omega
            have S0 := hp.st
            have S1 := S0.setAt (pre.length + 1)
            have HW := Lib.hid hp.well
            have HR := Lib.hid (CallsIn.inRound l ((callsIn_wide (n := 2)).2 (read_calls xl _ hxs (GOk.below HG.out S1.bel))))
            have c2 := S0.at_.cell
            have f2 := S0.at_.frozen
            have HS1 := Lib.hid S1
            clear S0 S1 hp hmem hpre P0 tb s5 hle
            obtain ⟨q, hrd⟩ : ∃ q, readR xl = q := ⟨_, rfl⟩
            obtain ⟨s, ok⟩ := q
            rw [hrd] at HR
            have RC := HR.out
            have HRD := Lib.hid hrd
            clear hrd HR
            gi_upto_region 14 with (refine ⟨trivial, ?_⟩; gi_at_call 43; (with_reducible refine RC.mono ?_); rintro e W2 ⟨rfl, hb⟩)
            have S3 := (HS1.out.below hb).below (below_alloc (Below.refl W2.heap.size W2) (.cells #[.int .i64 s.f0, .int .u16 s.f1, .bool s.f2, .bool s.f3, .bool s.f4, .bool s.f5, .bool s.f6, .bool s.f7, .bool s.f8, .int .u8 s.f9] 34))
            have bx : Bx s W2.heap.size (W2.alloc (.cells #[.int .i64 s.f0, .int .u16 s.f1, .bool s.f2, .bool s.f3, .bool s.f4, .bool s.f5, .bool s.f6, .bool s.f7, .bool s.f8, .int .u8 s.f9] 34)) := heap_alloc_new W2 _
            clear HS1 hb RC c2 f2
            generalize W2.alloc (.cells #[.int .i64 s.f0, .int .u16 s.f1, .bool s.f2, .bool s.f3, .bool s.f4, .bool s.f5, .bool s.f6, .bool s.f7, .bool s.f8, .int .u8 s.f9] 34) = W3 at S3 bx ⊢
            generalize W2.heap.size = g at bx ⊢
            have hg : g ≠ wc.heap.size + 3 := blk_ne bx S3.all (by decide)
            have c3 := S3.all.cell
            have f3 := S3.all.frozen
            have c0_ : W3.cell? ⟨g, 0, none⟩ = some (.int .i64 s.f0) := (blk_cell bx 0).trans rfl
            have HS3 := Lib.hid S3
            have HBX := Lib.hid bx
            clear S3 bx
            gi_upto_region 15 with fail
            have S4 := HS3.out.setAll (wrap64 (sumOf pre + s.f0))
            have bx4 : Bx s g (W3.setCell ⟨wc.heap.size + 3, 0, none⟩ (.int .i64 (wrap64 (sumOf pre + s.f0)))) := (Below.heap_setCell W3 ⟨wc.heap.size + 3, 0, none⟩ _ g hg).trans HBX.out
            clear HS3 HBX c3 f3 c0_ hg
            generalize W3.setCell ⟨wc.heap.size + 3, 0, none⟩ (.int .i64 (wrap64 (sumOf pre + s.f0))) = W4 at S4 bx4 ⊢
            obtain ⟨al, hal⟩ : ∃ al, wrap64 (sumOf pre + s.f0) = al := ⟨_, rfl⟩
            rw [hal] at S4 ⊢
            have c1 := S4.wrong.cell
            have f1 := S4.wrong.frozen
            have c3 := S4.all.cell
            have HS4 := Lib.hid S4
            have HBX := Lib.hid bx4
            have HAL := Lib.hid hal
            clear S4 bx4 hal
            have bad : ∀ a', (ok && en) = false → ownPostG w5.heap.size (Kb (wc.heap.size + 4)) (Pre wc) (Bad wc) (pre ++ [(xl, en)]) W (.exit 0) a' (W4.setCell ⟨wc.heap.size + 1, 0, none⟩ (.int .i64 71)) := fun a' hoe => by
              have h5 := HS4.out.setWrong 71
              refine ⟨h5.ko.from _, rfl, 71, by decide, h5.wrong, ?_, h5.bel, fun r => ?_⟩
              · have := h5.at_
                simpa using this
              · exact HW.out.bad (xl, en) (by show ((readR xl).2 && en) = false; rw [HRD.out]; exact hoe) r
            have HBAD := Lib.hid bad
            clear bad
            cases ok
            · gi_wp2
              exact HBAD.out _ rfl
            · cases en
              · gi_wp2
                exact HBAD.out _ rfl
              · clear HBAD
                have hrk := readR_ok xl (by rw [HRD.out])
                rw [HRD.out] at hrk
                have hal : al = sumOf pre + s.f0 := by
                  have h1 := HW.out.2.1
                  have h2 := HW.out.2.2
                  have h3 := hrk.2.1
                  have h4 := hrk.2.2.1
                  dsimp only at h3 h4
                  rw [← HAL.out]
                  exact IntWalk.wrap64_in _ (by omega)
                have HAL2 := Lib.hid hal
                clear hal hrk HAL
                by_cases h4 : 4194304 < al
                · have bad : ∀ a', ownPostG w5.heap.size (Kb (wc.heap.size + 4)) (Pre wc) (Bad wc) (pre ++ [(xl, true)]) W (.exit 0) a' (W4.setCell ⟨wc.heap.size + 1, 0, none⟩ (.int .i64 70)) := fun a' => by
                    have h5 := HS4.out.setWrong 70
                    refine ⟨h5.ko.from _, rfl, 70, by decide, h5.wrong, ?_, h5.bel, fun r => ?_⟩
                    · have := h5.at_
                      simpa using this
                    · refine HW.out.long (xl, true) (by show ((readR xl).2 && true) = true; rw [HRD.out]; rfl) (by show 4194304 < sumOf pre + (readR xl).1.f0; rw [HRD.out, ← HAL2.out]; exact h4) r
                  have HBAD := Lib.hid bad
                  clear bad
                  gi_wp2
                  exact HBAD.out _
                · obtain ⟨v, hv, hrow, _⟩ := HS4.out.out
                  have hsl : (spansOf pre).length = pre.length := by simp [spansOf]
                  obtain ⟨g2, cap, w1, hrun, hc1, hf1, hO, hK, hB2, hbox⟩ := more34 s hv hrow (Nat.le_refl _) (by rw [hsl]; omega)
                  have hvcell := hv.cell
                  have hfin : ∀ a', ownPostG w5.heap.size (Kb (wc.heap.size + 4)) (Pre wc) (Bad wc) (pre ++ [(xl, true)]) W .normal a' (w1.setCell ⟨wc.heap.size, 0, none⟩ (.slice (some ⟨g2, 0, none⟩) ((spansOf pre).length + 1) cap)) := fun a' => by
                    have q := HS4.out
                    obtain ⟨tt, htt⟩ := q.text
                    have e1 := hbox _ _ _ q.wrong (by decide) (by omega)
                    have e2 := hbox _ _ _ q.at_ (by decide) (by omega)
                    have e3 := hbox _ _ _ q.all (by decide) (by omega)
                    have e4 := hbox _ _ _ htt (by decide) (by omega)
                    have hwl := HW.out.snoc (xl, true) (by show ((readR xl).2 && true) = true; rw [HRD.out]; rfl) (by show sumOf pre + (readR xl).1.f0 ≤ 4194304; rw [HRD.out]; have := HAL2.out; dsimp only; omega)
                    refine ⟨(q.ko.trans hK).from _, Eq.trans e4 q.kb, ⟨?_, Eq.trans e1 q.wrong, ?_, ?_, ⟨tt, Eq.trans e4 htt⟩, q.bel.trans hB2, hwl⟩⟩
                    · rw [spansOf_snoc, HRD.out]; exact hO
                    · have : Boxed _ _ _ _ := Eq.trans e2 q.at_
                      simpa using this
                    · rw [sumOf_snoc, HRD.out, ← HAL2.out]
                      exact Eq.trans e3 q.all
                  have HFIN := Lib.hid hfin
                  have bxx := HBX.out
                  have d0 : W4.cell? ⟨g, 0, none⟩ = some (.int .i64 s.f0) := (blk_cell bxx 0).trans rfl
                  have d1 : W4.cell? ⟨g, 1, none⟩ = some (.int .u16 s.f1) := (blk_cell bxx 1).trans rfl
                  have d2 : W4.cell? ⟨g, 2, none⟩ = some (.bool s.f2) := (blk_cell bxx 2).trans rfl
                  have d3 : W4.cell? ⟨g, 3, none⟩ = some (.bool s.f3) := (blk_cell bxx 3).trans rfl
                  have d4 : W4.cell? ⟨g, 4, none⟩ = some (.bool s.f4) := (blk_cell bxx 4).trans rfl
                  have d5 : W4.cell? ⟨g, 5, none⟩ = some (.bool s.f5) := (blk_cell bxx 5).trans rfl
                  have d6 : W4.cell? ⟨g, 6, none⟩ = some (.bool s.f6) := (blk_cell bxx 6).trans rfl
                  have d7 : W4.cell? ⟨g, 7, none⟩ = some (.bool s.f7) := (blk_cell bxx 7).trans rfl
                  have d8 : W4.cell? ⟨g, 8, none⟩ = some (.bool s.f8) := (blk_cell bxx 8).trans rfl
                  have d9 : W4.cell? ⟨g, 9, none⟩ = some (.int .u8 s.f9) := (blk_cell bxx 9).trans rfl
                  clear hfin hO hK hB2 hbox hrow hv bxx hsl
                  gi_wp2
                  exact HFIN.out _
          case done =>
            intro D W hD hp hd
            have hpr : parseR t.data.toList = (spansOf (linesL t.data.toList), 0, 0) := by
              rw [HP.out]
              have := hp.well.1 []
              rw [List.append_nil] at this
              rw [this]; rfl
            obtain ⟨⟨v, hv, hrow, _⟩, hw, _, _, _, hb, _⟩ := hp
            have c1 := hw.cell
            have c2 := hv.cell
            have HR := Lib.hid hrow
            have HB := Lib.hid hb
            have HD := Lib.hid hD
            have HDD := Lib.hid hd
            have HPR := Lib.hid hpr
            clear hrow hb hD hd hpr hv hw P0 tb s5
            gi_wp2
            exact late HPR.out _ _ D v (by rfl) (by rfl) (by rfl) (Nat.le_trans hle HD.out) HDD.out HR.out HB.out
          case stop =>
            rintro D c pre W hD hpre ⟨rfl, code, hc0, hw, hat, hb, hsc⟩ hd
            have hpr : parseR t.data.toList = ([], code, ((pre.length : Nat) : Int)) := by
              obtain ⟨r, hr⟩ := hpre
              rw [HP.out, ← hr]
              exact hsc r
            have c1 := hw.cell
            have c2 := hat.cell
            have e1 : (code != 0) = true := bne_iff_ne.2 hc0
            have e2 : (code == 0) = false := beq_eq_false_iff_ne.2 hc0
            have HB := Lib.hid hb
            have HD := Lib.hid hD
            have HDD := Lib.hid hd
            have HPR := Lib.hid hpr
            clear hb hD hd hpr hw hat hsc hpre P0 tb s5
            gi_wp2
            gi_quiet_th (fail)
            gi_wp2
            exact late HPR.out _ _ D (.slice none 0 0) (by rfl) (by rfl) (by rfl) (Nat.le_trans hle HD.out) HDD.out (World.ownsRow_nil _ _ _ _) (pw_below_drewN HB.out nq)
end Go.Proofs.YtdjffafcmomalaaDoor.Scr
/- script.Print and script.Parse in the printed form. Condition: a text of at most 281474976710656 bytes. -/
set_option linter.unusedVariables false
set_option linter.unusedSimpArgs false
namespace Go.Proofs.YtdjffafcmomalaaDoor.PScr
open Go Go.RowKit
open Go.Proofs.YtdjffafcmomalaaDoorW.PrintWords Go.Proofs.YtdjffafcmomalaaDoor.Scr

theorem reps_rowL (w : World) (base : Nat) (ok : Nat → Prop) (l : List S34) : Reps (k34.M w base ok) 10 l (rowL l) := by
  have key : ∀ m, m ≤ l.length → Reps (k34.M w base ok) 10 (l.take m) (rowL (l.take m)) := by
    intro m
    induction m with
    | zero => intro _; exact Reps.none _ _
    | succ m ih =>
      intro hm
      rw [List.take_succ_eq_append_getElem (by omega), rowL_snoc]
      exact (ih (by omega)).snoc (k34_mkM w base ok l[m]) rfl
  have := key l.length (Nat.le_refl _)
  rwa [List.take_length] at this

def script_Parse.f (t : ByteArray) : Option (List S34 × Int × Int) := if t.size ≤ 281474976710656 then some (parseR t.data.toList) else none
theorem script_Parse.calls (a0 : ByteArray) (r1 : List S34) (r2 : Int) (r3 : Int) (w : World) (h : script_Parse.f a0 = some (r1, r2, r3))
    (hG : GOk w := by first | exact HG.out | exact GOk.below HG.out HB.out | exact GOk.below HG.out (by repeat (first | (with_reducible first | exact HB.out | apply below_alloc | apply pw_below_drewN | apply below_drew1) | exact HB.out))) :
    Calls Tryd.prog 23 #[.string a0] w fun e w' => ∃ v0_ : Value, e = .returned (.tuple #[v0_, .int .i64 r2, .int .i64 r3]) ∧ Kd.R k34 34 w' w.heap.size (fun _ => True) v0_ r1 ∧ Below w.heap.size w w' := by
  unfold script_Parse.f at h
  by_cases hs : a0.size ≤ 281474976710656
  · rw [if_pos hs, Option.some.injEq] at h
    refine (parse_calls a0 w hs hG).mono ?_
    rw [h]
    rintro e w' ⟨v, rfl, ho, hB⟩
    exact ⟨v, rfl, ⟨fun _ _ => trivial, rowL r1, ho, reps_rowL _ _ _ _⟩, hB⟩
  · rw [if_neg hs] at h; cases h
end Go.Proofs.YtdjffafcmomalaaDoor.PScr
