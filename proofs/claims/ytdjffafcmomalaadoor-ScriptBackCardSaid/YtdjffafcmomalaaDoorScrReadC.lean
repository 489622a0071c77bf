/- script.read: the whole contract, for every line of at most 70000 bytes. -/
import Derived.Test.YtdjffafcmomalaaDoorScrReadO
set_option linter.unusedVariables false
set_option linter.unusedSimpArgs false
namespace Go.Proofs.YtdjffafcmomalaaDoor.Scr
open Go Go.RowKit
open Go.Proofs.YtdjffafcmomalaaDoorW.PrintWords Go.Proofs.YtdjffafcmomalaaDoor.PScr

theorem head_size (l : ByteArray) : ((wordsOf l).headD ⟨#[]⟩).size ≤ l.size := by
  unfold wordsOf
  cases Lib.countB l blank with
  | zero => exact Nat.le_refl _
  | succ k =>
    unfold Lib.splitB
    split
    · exact Nat.le_refl _
    · simp only [List.headD_cons, ByteArray.size_extract]
      omega
abbrev agg34 (s : S34) : Value := .agg #[.int .i64 s.f0, .int .u16 s.f1, .bool s.f2, .bool s.f3, .bool s.f4, .bool s.f5, .bool s.f6, .bool s.f7, .bool s.f8, .int .u8 s.f9]

theorem read_calls (l : ByteArray) (w0 : World) (hl : l.size ≤ 70000) (hG : GOk w0) :
    Calls Tryd.prog 43 #[.string l] w0 fun e w' => e = .returned (.tuple #[agg34 (readR l).1, .bool (readR l).2]) ∧ Below w0.heap.size w0 w' := by
  obtain ⟨x, hx⟩ : ∃ x, (wordsOf l).headD ⟨#[]⟩ = x := ⟨_, rfl⟩
  have hxs : x.size ≤ 1000000 := by have := head_size l; rw [hx] at this; omega
  rcases hA : Lib.atoiAll x.data.toList with v | _ | _
  rotate_left
  · have e : readR l = (zero34 0, false) := by unfold readR; rw [hx, hA]
    rw [e]
    exact read_bad l w0 hl hG x hx hxs 0 (.inl ⟨hA, rfl⟩)
  · have e : readR l = (zero34 (Lib.atoiSat x.data.toList), false) := by unfold readR; rw [hx, hA]
    rw [e]
    exact read_bad l w0 hl hG x hx hxs _ (.inr ⟨hA, rfl⟩)
  · by_cases v1 : v < 1
    · have e : readR l = (zero34 v, false) := by unfold readR; rw [hx, hA]; simp only [if_pos v1]
      rw [e]
      exact read_low l w0 hl hG x hx hxs v hA v1
    · by_cases v2 : 1048576 < v
      · have e : readR l = (zero34 v, false) := by unfold readR; rw [hx, hA]; simp only [if_neg v1, if_pos v2]
        rw [e]
        exact read_high l w0 hl hG x hx hxs v hA v2
      · refine read_ok l w0 hl hG x (wordsOf l) rfl hx hxs v hA (by omega) (by omega) (readR l) ?_
        unfold readR
        rw [hx, hA]
        simp only [if_neg v1, if_neg v2]
        obtain ⟨⟨s, b⟩, h⟩ : ∃ q, loopW (zero34 v) (wordsOf l).tail = q := ⟨_, rfl⟩
        rw [h]
        cases b <;> simp
theorem setF_f0 (s : S34) (x : ByteArray) : (setF s x).f0 = s.f0 := by
  have h : ∀ k s, (sf k s x).f0 = s.f0 := fun k s => by unfold sf; split <;> (split <;> rfl)
  unfold setF
  rw [h, h, h, h, h, h, h]
theorem okS_loopW : ∀ (n : Nat) (W : List ByteArray), W.length ≤ n → ∀ s, okS s = true → okS (loopW s W).1 = true ∧ (loopW s W).1.f0 = s.f0
  | 0, [], _, s, h => ⟨h, rfl⟩
  | n + 1, [], _, s, h => ⟨h, rfl⟩
  | n + 1, [x], _, s, h => by
    by_cases h1 : x = tkeys
    · simp [loopW, h1, h]
    · by_cases h2 : x = tbus
      · subst h2
        rw [loopW_bus_end]; exact ⟨h, rfl⟩
      · rw [loopW_other _ _ _ h1 h2]
        exact ⟨okS_setF _ _ h, setF_f0 s x⟩
  | n + 1, x :: y :: r, hn, s, h => by
    have hr : r.length ≤ n := by simp at hn; omega
    by_cases h1 : x = tkeys
    · subst h1
      rw [loopW_keys]
      have nb := numR_bd y
      exact okS_loopW n r hr { s with f1 := (numR y).1 % 65536 } (by simp only [okS, Bool.and_eq_true, decide_eq_true_eq] at h ⊢; omega)
    · by_cases h2 : x = tbus
      · subst h2
        rw [loopW_bus]
        have nb := numR_bd y
        exact okS_loopW n r hr { s with f9 := (numR y).1 % 256 } (by simp only [okS, Bool.and_eq_true, decide_eq_true_eq] at h ⊢; omega)
      · rw [loopW_other _ _ _ h1 h2]
        have := okS_loopW n (y :: r) (by simp at hn ⊢; omega) (setF s x) (okS_setF _ _ h)
        rw [setF_f0 s x] at this
        exact this
theorem readR_ok (l : ByteArray) (h : (readR l).2 = true) : okS (readR l).1 = true ∧ 1 ≤ (readR l).1.f0 ∧ (readR l).1.f0 ≤ 1048576 ∧ lineB (readR l).1 = l := by
  unfold readR at h ⊢
  rcases hA : Lib.atoiAll ((wordsOf l).headD ⟨#[]⟩).data.toList with v | _ | _
  rotate_left
  · rw [hA] at h; cases h
  · rw [hA] at h; cases h
  · rw [hA] at h
    simp only at h ⊢
    by_cases v1 : v < 1
    · rw [if_pos v1] at h; cases h
    · rw [if_neg v1] at h ⊢
      by_cases v2 : 1048576 < v
      · rw [if_pos v2] at h; cases h
      · rw [if_neg v2] at h ⊢
        have hz := okS_loopW _ (wordsOf l).tail (Nat.le_refl _) (zero34 v) (by unfold okS zero34; simp only [Bool.and_eq_true, decide_eq_true_eq]; omega)
        obtain ⟨⟨s, b⟩, hq⟩ : ∃ q, loopW (zero34 v) (wordsOf l).tail = q := ⟨_, rfl⟩
        rw [hq] at h hz ⊢
        cases b
        · cases h
        · have : s.f0 = v := hz.2
          refine ⟨hz.1, by show 1 ≤ s.f0; omega, by show s.f0 ≤ _; omega, (MapKept.bytes_beq _ _).1 h⟩
end Go.Proofs.YtdjffafcmomalaaDoor.Scr
