/- tape.Read: its contract over plain lists: for every list of waves and every number of bytes. Condition: the variable errors.errorType holds what the program lays into it. -/
import Derived.Test.YtdibgdiiamcmfaaDoorTapeReadW
set_option linter.unusedVariables false
set_option linter.unusedSimpArgs false
namespace Go.Proofs.YtdibgdiiamcmfaaDoor.PTape
open Go.RowKit
open Go.Proofs.YtdibgdiiamcmfaaDoorW.PrintWords Go.Proofs.YtdibgdiiamcmfaaDoor.Reader

def tape_Read.f (l0 : List S37) (a1 : Int) : Option (List Int × Int × Int) :=
  if a1 < 0 then some ([], 1, 0) else (if a1 > 16384 then some ([], 1, 0) else (match readM l0 a1.toNat 0 [] with
    | .error (e, i) => some ([], e, i)
    | .ok bs => some (bs, 0, 0)))

set_option maxRecDepth 100000 in
theorem tape_Read.calls (A0 : Option Addr) (c0 : Nat) (l0 : List S37) (a1 : Int) (r1 : List Int) (r2 : Int) (r3 : Int) (w : World) (hr0 : Kd.C k37 w A0 l0.length l0) (hc0 : l0.length ≤ c0) (h : tape_Read.f l0 a1 = some (r1, r2, r3))
    (hG : GOk w := by first | exact HG.out | exact GOk.below HG.out HB.out | exact GOk.below HG.out (by repeat (first | (with_reducible first | exact HB.out | apply below_alloc | apply pw_below_drewN | apply below_drew1) | exact HB.out))) :
    Calls Tryd.prog 15 #[.slice A0 l0.length c0, .int .i64 a1] w fun e w' => ∃ v0_ : Value, e = .returned (.tuple #[v0_, .int .i64 r2, .int .i64 r3]) ∧ Kd.R (Kd.int .u8) 5 w' w.heap.size (fun _ => True) v0_ r1 ∧ Below w.heap.size w w' := by
  unfold tape_Read.f at h
  by_cases h1 : a1 < 0
  · rw [if_pos h1] at h
    simp only [Option.some.injEq, Prod.mk.injEq] at h
    obtain ⟨rfl, rfl, rfl⟩ := h
    clear hr0 hG
    go_enter Tryd.func15, Tryd.ntmps15
    go_wp2
    go_ret3
    exact ⟨_, rfl, Kd.R_nil _ _ _ _ _, Below.refl _ _⟩
  · rw [if_neg h1] at h
    by_cases h2 : a1 > 16384
    · rw [if_pos h2] at h
      simp only [Option.some.injEq, Prod.mk.injEq] at h
      obtain ⟨rfl, rfl, rfl⟩ := h
      clear hr0 hG
      go_enter Tryd.func15, Tryd.ntmps15
      go_wp2
      go_ret3
      exact ⟨_, rfl, Kd.R_nil _ _ _ _ _, Below.refl _ _⟩
    · rw [if_neg h2] at h
      obtain ⟨n, rfl⟩ := Int.eq_ofNat_of_zero_le (show 0 ≤ a1 by omega)
      rw [Int.toNat_natCast] at h
      refine (read_calls A0 c0 l0 n w hr0 hc0 (by omega) hG _ rfl).mono ?_
      rintro e w' ⟨hB, hm⟩
      cases hx : readM l0 n 0 [] with
      | error p =>
        obtain ⟨k, i⟩ := p
        rw [hx] at h hm
        simp only [Option.some.injEq, Prod.mk.injEq] at h
        obtain ⟨rfl, rfl, rfl⟩ := h
        exact ⟨_, hm, Kd.R_nil _ _ _ _ _, hB⟩
      | ok bs =>
        rw [hx] at h hm
        simp only [Option.some.injEq, Prod.mk.injEq] at h
        obtain ⟨rfl, rfl, rfl⟩ := h
        obtain ⟨v, he, hR⟩ := hm
        exact ⟨v, he, hR, hB⟩
end Go.Proofs.YtdibgdiiamcmfaaDoor.PTape
