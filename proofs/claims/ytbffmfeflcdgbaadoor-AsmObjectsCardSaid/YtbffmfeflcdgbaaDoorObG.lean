/- code.Info in the printed form. -/
import Derived.Test.YtbffmfeflcdgbaaDoorCodeI
set_option linter.unusedVariables false
set_option linter.unusedSimpArgs false
namespace Go.Proofs.YtbffmfeflcdgbaaDoor.POb
open Go Go.RowKit
open Go.Proofs.YtbffmfeflcdgbaaDoorW.PrintWords
open Go.Proofs.YtbffmfeflcdgbaaDoor.Code

def code_Info.f (a0 : Int) : Option (ByteArray × Int × Int × Int) := if 0 ≤ a0 then (if a0 < 256 then some (nameOf a0.toNat, (formV a0.toNat : Int), bytesV a0.toNat, cyclesV a0.toNat) else none) else none
theorem code_Info.calls (a0 : Int) (r1 : ByteArray) (r2 : Int) (r3 : Int) (r4 : Int) (w : World) (h : code_Info.f a0 = some (r1, r2, r3, r4))
 (hG : GOk w := by first | exact HG.out | exact GOk.below HG.out HB.out | exact GOk.below HG.out bw) :
 Calls Tryd.prog 36 #[.int .u8 a0] w fun e w' => e = .returned (.agg #[.string r1, .int .u8 r2, .int .i64 r3, .int .i64 r4]) ∧ Below w.heap.size w w' := by
 unfold code_Info.f at h
 by_cases h0 : 0 ≤ a0
 ·rw [if_pos h0] at h
  by_cases h1 : a0 < 256
  ·rw [if_pos h1] at h
   obtain ⟨n, rfl⟩ := Int.eq_ofNat_of_zero_le h0
   have e := Option.some.inj h
   simp only [Int.toNat_natCast, Prod.mk.injEq] at e
   obtain ⟨e1, e2, e3, e4⟩ := e
   refine (info_calls n (by omega) w hG).mono ?_
   rintro e w' ⟨he, hb⟩
   exact ⟨by rw [he, e1, e2, e3, e4], hb⟩
  rw [if_neg h1] at h; cases h
 rw [if_neg h0] at h; cases h
end Go.Proofs.YtbffmfeflcdgbaaDoor.POb
