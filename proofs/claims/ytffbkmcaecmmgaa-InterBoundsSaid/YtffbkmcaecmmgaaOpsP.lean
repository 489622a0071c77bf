/- The orders: that two rows of the table do not fit one word, but machine's and two others; the first fitting row from the front is the first from behind. -/
import Derived.Test.YtffbkmcaecmmgaaOpsL
import Derived.Laws.BitsLemmas
set_option linter.unusedVariables false
set_option linter.unusedSimpArgs false
namespace Go.Proofs.Ytffbkmcaecmmgaa.Ops
open Go Go.RowKit
open Go.Proofs.YtffbkmcaecmmgaaW.PrintWords Go.Proofs.Ytffbkmcaecmmgaa.PInterBounds

theorem wrap_u16 (n : Int) : IntKind.u16.wrap n = n % 65536 := by simp [IntKind.wrap, IntKind.bits, IntKind.signed]
theorem ofInt_wrap (x : BitVec 16) : BitVec.ofInt 16 (IntKind.u16.wrap (x.toNat : Int)) = x := by
  rw [wrap_u16]
  have h : ((x.toNat : Int) % 65536) = (x.toNat : Int) := by have := x.isLt; omega
  rw [h, BitVec.ofInt_natCast, BitVec.ofNat_toNat, BitVec.setWidth_eq]
theorem and_swap (w m m' : Int) : Go.bits .and .u16 (Go.bits .and .u16 w m) m' = Go.bits .and .u16 (Go.bits .and .u16 w m') m := by
  unfold Go.bits
  simp only
  show IntKind.u16.wrap (((BitVec.ofInt 16 (IntKind.u16.wrap ((BitVec.ofInt 16 w &&& BitVec.ofInt 16 m).toNat : Int))) &&& BitVec.ofInt 16 m').toNat : Int) = IntKind.u16.wrap (((BitVec.ofInt 16 (IntKind.u16.wrap ((BitVec.ofInt 16 w &&& BitVec.ofInt 16 m').toNat : Int))) &&& BitVec.ofInt 16 m).toNat : Int)
  rw [ofInt_wrap, ofInt_wrap, BitVec.and_assoc, BitVec.and_assoc, BitVec.and_comm (BitVec.ofInt 16 m)]
def pairB (a b : Rw) : Bool := !(Go.bits .and .u16 a.word b.mask == Go.bits .and .u16 b.word a.mask) || (a.op == b.op || (a.op == 1 && (b.op == 2 || b.op == 3) || b.op == 1 && (a.op == 2 || a.op == 3)))
theorem pairs : (tbl.all fun a => tbl.all fun b => pairB a b) = true := by decide +kernel
theorem pair_of {w : Int} {a b : Rw} (ha : a ∈ tbl) (hb : b ∈ tbl) (fa : fitsB w a = true) (fb : fitsB w b = true) : a.op = b.op ∨ (a.op = 1 ∧ (b.op = 2 ∨ b.op = 3)) ∨ (b.op = 1 ∧ (a.op = 2 ∨ a.op = 3)) := by
  have h := List.all_eq_true.1 (List.all_eq_true.1 pairs a ha) b hb
  have e1 : Go.bits .and .u16 w a.mask = a.word := beq_iff_eq.1 fa
  have e2 : Go.bits .and .u16 w b.mask = b.word := beq_iff_eq.1 fb
  have e : Go.bits .and .u16 a.word b.mask = Go.bits .and .u16 b.word a.mask := by rw [← e1, ← e2, and_swap]
  unfold pairB at h
  rw [e] at h
  simpa using h
theorem ops_apart : (tbl.all fun a => tbl.all fun b => !(a.op == b.op) || (a.word == b.word && a.mask == b.mask)) = true := by decide +kernel
end Go.Proofs.Ytffbkmcaecmmgaa.Ops
