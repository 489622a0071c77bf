/- A range over script.lines: the loop's law for an iterator that writes a variable of its own (the rest of the text). -/
import Derived.Test.YtdjffafcmomalaaDoorScrLines
set_option linter.unusedVariables false
set_option linter.unusedSimpArgs false
namespace Go.Proofs.YtdjffafcmomalaaDoor.Scr
open Go Go.RowKit

/-- A change of one block that is no row of cells and lies behind n₀. -/
def Other (n₀ : Nat) (W W' : World) : Prop := ∃ k o o', n₀ ≤ k ∧ W.heap[k]? = some o ∧ o.isCells = false ∧ W' = W.putObj k o'
theorem turn_same {Bn : Nat} {W W' : World} (h : Turn Bn W W') (k : Nat) (o : Obj) (hB : ∃ c, W.heap[Bn]? = some c ∧ c.isCells = true) (hk : W.heap[k]? = some o) (ho : o.isCells = false) : W'.heap[k]? = some o := by
  rcases h with ⟨n, rfl⟩ | ⟨t, rfl⟩
  · exact hk
  · have hne : k ≠ Bn := fun e => by
      obtain ⟨c, hc, hcc⟩ := hB
      rw [e, hc] at hk; cases hk; rw [hcc] at ho; cases ho
    exact (Below.heap_setCell W ⟨Bn, 0, none⟩ _ k hne).trans hk

theorem range_lines (n : Nat) (h2 : 2 ≤ n) {g : Operand} {ps : Array Tmp} {assign body : Code} {Q : Exit → Act → World → Prop} {a : Act} {w : World} (hps : ps.size = 2)
    (Bn : Nat) (text : List UInt8) (hlen : text.length ≤ 70000) (hg : a.eval g = .func (.func 60) #[] #[.pointer (some ⟨Bn, 0, none⟩)]) (hBn : Boxed w Bn 9 (.string ⟨text.toArray⟩))
    (I : List (ByteArray × Bool) → World → Prop) (Ix : Code → List (ByteArray × Bool) → World → Prop)
    (hI : ∀ pre W W', Other w.heap.size W W' → I pre W → I pre W') (hIx : ∀ c pre W W', Other w.heap.size W W' → Ix c pre W → Ix c pre W')
    (hturn : ∀ pre W W', Turn Bn W W' → I pre W → I pre W') (hbox : ∀ pre W, I pre W → ∃ c, W.heap[Bn]? = some c ∧ c.isCells = true)
    (hm : ∀ pre W, I pre W → ∃ m, W.cell? ⟨0, 0, none⟩ = some (.int .i64 m))
    (h0 : ∀ o o', I [] ((w.alloc o).alloc o')) (a₁ : ByteArray × Bool → Act)
    (hassign : ∀ (l : Nat) (x : ByteArray × Bool) (W : World) (K : Act → World → Prop), K (a₁ x) W →
      assign.wpIn (Fence.wide.inRound l) (n - 1 - 1) Tryd.prog (Exit.then K (fun _ _ _ => False)) { tmps := (ps.zip #[.string x.1, .bool x.2]).foldl (fun t (p, v) => t.setIfInBounds p v) a.tmps, defers := [] } W)
    (hbody : ∀ (l : Nat) (pre : List (ByteArray × Bool)) (x : ByteArray × Bool) (W : World), I pre W → pre ++ [x] <+: linesL text → body.wpIn (Fence.wide.inRound l) (n - 1 - 1) Tryd.prog (ownPostG w.heap.size (Kb Bn) I Ix (pre ++ [x]) W) (a₁ x) W)
    (hdone : ∀ (D : Nat) (W : World), w.heap.size ≤ D → I (linesL text) W → W.heap[D]? = some (.deferred (some [])) → Q .normal { a with defers := { target := .collected D, args := #[] } :: a.defers } W)
    (hstop : ∀ (D : Nat) (c : Code) (pre : List (ByteArray × Bool)) (W : World), w.heap.size ≤ D → pre <+: linesL text → Ix c pre W → W.heap[D]? = some (.deferred (some [])) → c.wpIn Fence.wide n Tryd.prog Q { a with defers := { target := .collected D, args := #[] } :: a.defers } W) :
    (Code.rangeFunc g ps assign body).wpIn Fence.wide n Tryd.prog Q a w := by
  refine wpIn_rangeFunc fun fn hfn => ?_
  -- D: the block for the rounds' deferred calls; D + 1: the loop's record
  obtain ⟨D, hD⟩ : ∃ D, w.heap.size = D := ⟨_, rfl⟩
  obtain ⟨rec, hrec⟩ : ∃ rec : LoopState → Option Code → Loop, rec = fun st pe => { state := st, pending := pe, fn, tmps := a.tmps, params := ps, assign, body, defers := D } := ⟨_, rfl⟩
  obtain ⟨V, hV⟩ : ∃ V, (w.alloc (.deferred (some []))).alloc (.loop (rec .ready none)) = V := ⟨_, rfl⟩
  have vl : V.heap[D + 1]? = some (.loop (rec .ready none)) := by
    have := World.alloc_heap_new (w.alloc (.deferred (some []))) (.loop (rec .ready none))
    rw [World.size_alloc, hD] at this
    rw [← hV]; exact this
  have vd : V.heap[D]? = some (.deferred (some [])) := by
    rw [← hV, Below.heap_alloc _ _ _ (by rw [World.size_alloc]; omega), ← hD]
    exact World.alloc_heap_new w _
  have vb : Boxed V Bn 9 (.string ⟨text.toArray⟩) := by rw [← hV]; exact (hBn.alloc _).alloc _
  have run0 : (Instr.enterLoop fn a.tmps ps assign body Fence.wide.round).run Tryd.prog w = .ok (D + 1, [{ target := .collected D, args := #[] }]) V := by
    rw [← hV, hrec, ← hD]; exact run_enterLoop_outer _ _ _ _ _
  -- the two facts of the loop's own, kept by whatever leaves the blocks that are no cells
  have step : ∀ (st : LoopState) (pe : Option Code) (W W' : World), (∀ k o, D ≤ k → W.heap[k]? = some o → o.isCells = false → W'.heap[k]? = some o) →
      W.heap[D + 1]? = some (.loop (rec st pe)) ∧ W.heap[D]? = some (.deferred (some [])) → W'.heap[D + 1]? = some (.loop (rec st pe)) ∧ W'.heap[D]? = some (.deferred (some [])) :=
    fun st pe W W' h hl => ⟨h _ _ (by omega) hl.1 rfl, h _ _ (Nat.le_refl _) hl.2 rfl⟩
  have turned : ∀ (st st' : LoopState) (pe pe' : Option Code) (W : World), W.heap[D + 1]? = some (.loop (rec st pe)) ∧ W.heap[D]? = some (.deferred (some [])) →
      (W.putObj (D + 1) (.loop (rec st' pe'))).heap[D + 1]? = some (.loop (rec st' pe')) ∧ (W.putObj (D + 1) (.loop (rec st' pe'))).heap[D]? = some (.deferred (some [])) ∧ Other w.heap.size W (W.putObj (D + 1) (.loop (rec st' pe'))) :=
    fun st st' pe pe' W hl => ⟨World.putObj_heap_same (Array.getElem?_eq_some_iff.1 hl.1).1, (World.putObj_heap_other (by omega)).trans hl.2, ⟨D + 1, _, _, by omega, hl.1, rfl, rfl⟩⟩
  refine ⟨D + 1, [{ target := .collected D, args := #[] }], V, { target := .fn (.func 60) #[.pointer (some ⟨Bn, 0, none⟩)], args := #[.func (.yield (D + 1)) #[] #[]] }, V, 60,
    #[.func (.yield (D + 1)) #[] #[], .pointer (some ⟨Bn, 0, none⟩)], V, run0, ?_, fun _ _ => trivial, ?_, fun _ => by omega, ?_⟩
  · simp only [resolve, hg]; simp [go_sem]
  · have eg := enters_of Tryd.func60 (by kernel_rfl) rfl
    simp [invoke, go_sem, eg]
  · refine (lines1_in (n - 1) (by omega) (D + 1) Bn text hlen
      (fun pre W => I pre W ∧ W.heap[D + 1]? = some (.loop (rec .ready none)) ∧ W.heap[D]? = some (.deferred (some [])))
      (fun pre W => ∃ c, Ix c pre W ∧ W.heap[D + 1]? = some (.loop (rec .done (some c))) ∧ W.heap[D]? = some (.deferred (some [])))
      (fun pre W h => hm pre W h.1)
      (fun pre W W' ht h => ⟨hturn _ _ _ ht h.1, step _ _ _ _ (fun k o _ hk ho => turn_same ht k o (hbox _ _ h.1) hk ho) h.2⟩)
      ?_ V vb ⟨by rw [← hV]; exact h0 _ _, vl, vd⟩).mono ?_
    · rintro pre x W ⟨hi, hl⟩ hpre
      have hy := run_yield (P := Tryd.prog) (args := #[.string x.1, .bool x.2]) hl.1 (by rw [hrec]; exact hps.symm)
      rw [hrec] at hy
      refine ⟨fn, _, assign, body, hy, roundIn_of_wpIn hfn (hassign _ x W _ ⟨_, run_beginRound hl.1 (by rw [hrec]), ?_⟩)⟩
      have hrb : ({ rec .ready none with state := .busy } : Loop) = rec .busy none := by rw [hrec]
      rw [hrb]
      obtain ⟨b1, b2, b3⟩ := turned .ready .busy none none W hl
      have kb : ∀ (W : World) (o' : Obj), W.heap[D + 1]? ≠ none → Bn ≠ D + 1 → Kb Bn W (W.putObj (D + 1) o') := fun W o' _ hne => World.putObj_heap_other hne
      have hBne : Bn ≠ D + 1 := by have := hBn.lt; omega
      refine wpIn_mono (hbody _ pre x _ (hI _ _ _ b3 hi) hpre) ?_
      -- a round's end
      have fin : ∀ (jump : Option Code) (W3 : World), KeepsFrom w.heap.size (W.putObj (D + 1) (.loop (rec .busy none))) W3 →
          (Instr.endRound (D + 1) jump).run Tryd.prog W3 = .ok (.bool jump.isNone) (W3.putObj (D + 1) (.loop (rec (if jump.isNone then .ready else .done) jump))) ∧ W3.heap[D + 1]? = some (.loop (rec .busy none)) ∧ W3.heap[D]? = some (.deferred (some [])) := fun jump W3 hk => by
        have h3 := step .busy none _ W3 (fun k o hk' h ho => hk.same k o (by omega) h ho) ⟨b1, b2⟩
        have hr := run_endRound (P := Tryd.prog) jump h3.1
        rw [hrec] at hr h3 ⊢
        exact ⟨hr, h3.1, h3.2⟩
      rintro e a3 W3 hp
      cases e with
      | normal =>
        obtain ⟨hr, h3⟩ := fin none W3 hp.1
        obtain ⟨c1, c2, c3⟩ := turned .busy .ready none none W3 h3
        exact ⟨_, _, hr, .inl ⟨rfl, ⟨hI _ _ _ c3 hp.2.2, c1, c2⟩, Eq.trans (World.putObj_heap_other hBne) (Eq.trans hp.2.1 (World.putObj_heap_other hBne))⟩⟩
      | ret =>
        obtain ⟨hr, h3⟩ := fin (some .ret) W3 hp.1
        obtain ⟨c1, c2, c3⟩ := turned .busy .done none (some .ret) W3 h3
        exact ⟨_, _, hr, .inr ⟨rfl, .ret, hIx _ _ _ _ c3 hp.2, c1, c2⟩⟩
      | exit id =>
        obtain ⟨hr, h3⟩ := fin (some (.exit id)) W3 hp.1
        obtain ⟨c1, c2, c3⟩ := turned .busy .done none (some (.exit id)) W3 h3
        exact ⟨_, _, hr, .inr ⟨rfl, .exit id, hIx _ _ _ _ c3 hp.2, c1, c2⟩⟩
      | goto t =>
        obtain ⟨hr, h3⟩ := fin (some (.goto t)) W3 hp.1
        obtain ⟨c1, c2, c3⟩ := turned .busy .done none (some (.goto t)) W3 h3
        exact ⟨_, _, hr, .inr ⟨rfl, .goto t, hIx _ _ _ _ c3 hp.2, c1, c2⟩⟩
      | panic ch => exact hp.elim
      | outgrown => exact hp.elim
    · have ended : ∀ (st : LoopState) (pe : Option Code) (W : World), st ≠ .busy → W.heap[D + 1]? = some (.loop (rec st pe)) ∧ W.heap[D]? = some (.deferred (some [])) → ∃ W', (Instr.endLoop (D + 1)).run Tryd.prog W = .ok pe W' ∧ Other w.heap.size W W' ∧ W'.heap[D]? = some (.deferred (some [])) := fun st pe W hs hl => by
        have hr := run_endLoop (P := Tryd.prog) hl.1 (by rw [hrec]; exact hs)
        rw [hrec] at hr
        exact ⟨_, hr, ⟨D + 1, _, _, by omega, hl.1, rfl, rfl⟩, (World.putObj_heap_other (by omega)).trans hl.2⟩
      rintro e W2 ⟨⟨v, rfl⟩, (⟨hi, hl⟩ | ⟨pre, hpre, c, hi, hl⟩)⟩
      · obtain ⟨W3, hr, ho, hd⟩ := ended _ _ W2 (by simp) hl
        exact ⟨none, W3, hr, hdone _ _ (by omega) (hI _ _ _ ho hi) hd⟩
      · obtain ⟨W3, hr, ho, hd⟩ := ended _ _ W2 (by simp) hl
        exact ⟨some c, W3, hr, hstop _ c pre _ (by omega) hpre (hIx _ _ _ _ ho hi) hd⟩
end Go.Proofs.YtdjffafcmomalaaDoor.Scr
