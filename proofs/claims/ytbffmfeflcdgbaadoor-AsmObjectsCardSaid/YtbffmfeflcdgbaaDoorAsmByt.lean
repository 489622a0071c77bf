/- asm.Bytes: laws without a walk: bytes laid into a row. -/
import Derived.Test.YtbffmfeflcdgbaaDoorAsmRoom
import Derived.Test.YtbffmfeflcdgbaaDoorAsmMp
set_option linter.unusedVariables false
set_option linter.unusedSimpArgs false
namespace Go.Proofs.YtbffmfeflcdgbaaDoor.Byt
open Go Go.RowKit
open Go.Proofs.YtbffmfeflcdgbaaDoorW.PrintWords Go.Proofs.YtbffmfeflcdgbaaDoor.POb Go.Proofs.YtbffmfeflcdgbaaDoor.LentL Go.Proofs.YtbffmfeflcdgbaaDoor.Room Go.Proofs.YtbffmfeflcdgbaaDoor.Chk

def putAt (row : List Int) (at_ : Nat) (l : List Int) : List Int := row.take at_ ++ l ++ row.drop (at_ + l.length)
def layB : List S42 → List Int → List Int
 | [], row => row
 | b :: r, row => layB r (putAt row b.f0.toNat b.f1)
theorem putAt_length {row : List Int} {a : Nat} {l : List Int} (h : a + l.length ≤ row.length) : (putAt row a l).length = row.length := by
 unfold putAt; simp; omega
def numsA (l : List Int) : Array Value := (encs (Value.int .u8) l).toArray
theorem encs_len (l : List Int) : (encs (Value.int .u8) l).length = l.length := by simp [encs]

theorem copy_into (W : World) (g : Nat) (row : List Int) (a n : Nat) (A : Option Addr) (l : List Int) (c : Nat) (hn : row.length = n)
 (hg : W.heap[g]? = some (.cells (numsA row) 5 (0, 0))) (hC : kb.C W A l.length l) (h0 : 0 < l.length) (hfit : a + l.length ≤ n) :
 (Builtin.copy_ #[33, 33] 3 #[.slice (some ⟨g, a, none⟩) (n - a) (n - a), .slice A l.length c]).run Tryd.prog W = .ok (goInt l.length) (W.setRow g (numsA (putAt row a l))) := by
 obtain ⟨ad, rfl, hcc⟩ := hC.2.2 h0
 have hcell : ∀ j v, (encs (Value.int .u8) l)[j]? = some v → W.cell? (ad.add j) = some v := by
  intro j v hv
  unfold encs at hv
  rw [List.getElem?_map, Option.map_eq_some_iff] at hv
  obtain ⟨p, hp, rfl⟩ := hv
  obtain ⟨cs, _, hK, hcs⟩ := hcc j p hp
  obtain rfl : cs = [_] := hK
  have := hcs 0 _ rfl
  have e : j * kb.sz + 0 = j := by show j * 1 + 0 = j; omega
  rwa [e] at this
 have hmin : Nat.min l.length (n - a) = l.length := Nat.min_eq_left (by omega)
 have hrun := run_copy_wide (P := Tryd.prog) W 33 33 3 5 1 g a (n - a) (n - a) ad l.length c (numsA row) 5 (encs (Value.int .u8) l) Tryd.underlying33 (by
  obtain ⟨i0, hi, hzz⟩ := Option.map_eq_some_iff.1 info5
  simp only [Prod.mk.injEq] at hzz
  rw [hi]; simp [hzz.2.1]) hg (by rw [encs_len, hmin, Nat.mul_one]) hcell (by rw [encs_len]; simp [numsA, encs_len]; omega) (fun v hv => by
  unfold encs at hv
  obtain ⟨p, _, rfl⟩ := List.mem_map.1 hv
  rfl)
 rw [hmin] at hrun
 have e : ((numsA row).toList.take a ++ encs (Value.int .u8) l ++ (numsA row).toList.drop (a + (encs (Value.int .u8) l).length)).toArray = numsA (putAt row a l) := by
  unfold numsA putAt
  rw [encs_append, encs_append, encs_len]
  simp [encs]
 rw [hrun, ← e]
theorem slice_C (W : World) (g : Nat) (row : List Int) (hg : W.heap[g]? = some (.cells (numsA row) 5 (0, 0))) (hm : row.length ≤ maxLen) : kb.C W (some ⟨g, 0, none⟩) row.length row := by
 have ho : W.ownsRow 0 5 1 (.slice (some ⟨g, 0, none⟩) row.length row.length) row.length (encs (Value.int .u8) row) :=
  ⟨by rw [encs_len, Nat.mul_one], .inr ⟨g, row.length, _, rfl, Nat.zero_le _, hg, Nat.le_refl _, hm, by simp [numsA, encs_len], by rw [Nat.mul_one]; exact List.take_of_length_le (by simp [numsA, encs_len])⟩⟩
 exact (Kd.R_reads' (Kd.R_of_own (h1 := fun _ => rfl) (ok := fun _ => True) ho (fun _ _ => trivial))).2.2
theorem made_nums (n : Nat) : madeCells (Value.int .u8 0).cells (n * 1) = numsA (List.replicate n 0) := by
 unfold numsA
 apply Array.ext'
 apply List.ext_getElem
 ·simp [size_madeCells, encs_len]
 intro i h1 h2
 simp [madeCells, encs, Value.cells, Nat.mod_one]
end Go.Proofs.YtbffmfeflcdgbaaDoor.Byt
