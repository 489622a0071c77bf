/- tape.Write: its contract over plain lists: for every list of bytes and every leader. Condition: each byte is one (0 to 255). -/
import Derived.Test.YtdibgdiiamcmfaaDoorTapeWrite
set_option linter.unusedVariables false
set_option linter.unusedSimpArgs false
namespace Go.Proofs.YtdibgdiiamcmfaaDoor.PTape
open Go.RowKit
open Go.Proofs.YtdibgdiiamcmfaaDoorW.PrintWords Go.Proofs.YtdibgdiiamcmfaaDoor.Write

def waveS (b : Bool) : S37 := ⟨half b, half b⟩
def byteB (x : Int) : Bool := decide (0 ≤ x) && decide (x < 256)
def tape_Write.f (l0 : List Int) (a1 : Int) : Option (List S37 × Int) :=
  if l0.all byteB = true then (if l0.length > 16384 then some ([], 2) else (if a1 < 0 then some ([], 1) else (if a1 > 16384 then some ([], 1) else some ((wavesOf a1 l0).map waveS, 0)))) else none

theorem reps_waves (w : World) (base : Nat) (ok : Nat → Prop) (l : List Bool) : Reps (k37.M w base ok) 2 (l.map waveS) (cellsOf l) := by
  have key : ∀ m, m ≤ l.length → Reps (k37.M w base ok) 2 ((l.take m).map waveS) (cellsOf (l.take m)) := by
    intro m
    induction m with
    | zero => intro _; exact Reps.none _ _
    | succ m ih =>
      intro hm
      rw [List.take_succ_eq_append_getElem (by omega), List.map_append, cellsOf_snoc]
      exact (ih (by omega)).snoc (k37_mkM w base ok (waveS l[m])) rfl
  have := key l.length (Nat.le_refl _)
  rwa [List.take_length] at this

set_option maxRecDepth 100000 in
theorem tape_Write.calls (A0 : Option Addr) (c0 : Nat) (l0 : List Int) (a1 : Int) (r1 : List S37) (r2 : Int) (w : World) (hr0 : Kd.C (Kd.int .u8) w A0 l0.length l0) (hc0 : l0.length ≤ c0) (h : tape_Write.f l0 a1 = some (r1, r2)) :
    Calls Tryd.prog 11 #[.slice A0 l0.length c0, .int .i64 a1] w fun e w' => ∃ v0_ : Value, e = .returned (.tuple #[v0_, .int .i64 r2]) ∧ Kd.R k37 37 w' w.heap.size (fun _ => True) v0_ r1 ∧ Below w.heap.size w w' := by
  unfold tape_Write.f at h
  by_cases hb : l0.all byteB = true
  · rw [if_pos hb] at h
    have hb' : ∀ x ∈ l0, 0 ≤ x ∧ x < 256 := by
      intro x hx
      have := List.all_eq_true.1 hb x hx
      simpa [byteB] using this
    clear hb
    by_cases h1 : l0.length > 16384
    · rw [if_pos h1] at h
      simp only [Option.some.injEq, Prod.mk.injEq] at h
      obtain ⟨rfl, rfl⟩ := h
      clear hr0 hb'
      go_enter Tryd.func11, Tryd.ntmps11
      go_wp2
      go_ret2
      exact ⟨_, rfl, Kd.R_nil _ _ _ _ _, Below.refl _ _⟩
    · rw [if_neg h1] at h
      by_cases h2 : a1 < 0
      · rw [if_pos h2] at h
        simp only [Option.some.injEq, Prod.mk.injEq] at h
        obtain ⟨rfl, rfl⟩ := h
        clear hr0 hb'
        go_enter Tryd.func11, Tryd.ntmps11
        go_wp2
        go_ret2
        exact ⟨_, rfl, Kd.R_nil _ _ _ _ _, Below.refl _ _⟩
      · rw [if_neg h2] at h
        by_cases h3 : a1 > 16384
        · rw [if_pos h3] at h
          simp only [Option.some.injEq, Prod.mk.injEq] at h
          obtain ⟨rfl, rfl⟩ := h
          clear hr0 hb'
          go_enter Tryd.func11, Tryd.ntmps11
          go_wp2
          go_ret2
          exact ⟨_, rfl, Kd.R_nil _ _ _ _ _, Below.refl _ _⟩
        · rw [if_neg h3] at h
          simp only [Option.some.injEq, Prod.mk.injEq] at h
          obtain ⟨rfl, rfl⟩ := h
          refine (write_calls A0 c0 l0 a1 w hr0 hc0 (by omega) (by omega) (by omega) hb').mono ?_
          rintro e w' ⟨v, rfl, ho, hB⟩
          refine ⟨v, rfl, ⟨fun _ _ => trivial, cellsOf (wavesOf a1 l0), ?_, reps_waves _ _ _ _⟩, hB⟩
          rw [List.length_map]
          exact ho
  · rw [if_neg hb] at h
    cases h
end Go.Proofs.YtdibgdiiamcmfaaDoor.PTape
