/- ScriptSame's plain law: what each step of it tells. Conditions: each lemma's own. -/
import Derived.Test.YtdjffafcmomalaaDoorScrNormP
import Derived.Test.YtdjffafcmomalaaDoorScrCutP
import Derived.Test.YtdjffafcmomalaaDoorScrFlatP
set_option linter.unusedVariables false
set_option linter.unusedSimpArgs false
namespace Go.Proofs.YtdjffafcmomalaaDoor.Scr
open Go Go.RowKit
open Go.Proofs.YtdjffafcmomalaaDoorW.PrintWords Go.Proofs.YtdjffafcmomalaaDoor.PScr

theorem same_cut (l : List S34) (h : (cyclesR l).2 = 0) (n : Int) (h0 : 0 ≤ n) (h1 : n ≤ sumC l) :
    ∃ a b, script_Cut.f 100000 l n = some (a, b, 0) ∧ script_Cycles.f 100000 a = some (n, 0) ∧ vesperlaw07_flat.f 100000 (a ++ b) l = some true ∧ a.length ≤ 4096 ∧ b.length ≤ 4096 := by
  obtain ⟨c1, c2, c3, c4⟩ := cyclesR_ok h
  obtain ⟨g1, g2, g3, g4, g5, g6⟩ := cutA_all l n c2 h0 h1
  refine ⟨(cutA l n).1, (cutA l n).2, ?_, ?_, ?_, by omega, by omega⟩
  · rw [cut_f l n 100000 (by decide)]
    unfold cutR
    rw [if_pos h, if_neg (by rw [c4]; simp only; omega)]
  · rw [cycles_f 100000 _ (by decide), cyclesR_mk (by omega) g1 (by omega), g3]
  · rw [flat_f _ _ (by rw [List.all_append, g1, g2]; rfl) c2 (by rw [List.length_append]; omega) (by omega) 100000 (by decide), decide_eq_true g4]
theorem same_norm (l : List S34) (h : (cyclesR l).2 = 0) :
    ∃ m, script_Normal.f 100000 l = some (m, 0) ∧ vesperlaw07_flat.f 100000 m l = some true ∧ m.length ≤ l.length ∧ m.length ≤ 4096 ∧ script_Normal.f 100000 m = some (m, 0) ∧ Nrm m ∧ cyc m = cyc l ∧ vesperref07_Same.f 100000 m m = some true := by
  obtain ⟨c1, c2, c3, c4⟩ := cyclesR_ok h
  obtain ⟨m, e, g1, g2, g3⟩ := normal_ok l h 100000 (by decide)
  have hs : sumC m = sumC l := by rw [← cyc_len m g1.all, ← cyc_len l c2, g2]
  have hm : (cyclesR m).2 = 0 := by rw [cyclesR_mk (by omega) g1.all (by omega)]
  obtain ⟨m', e', k1, k2, k3⟩ := normal_ok m hm 100000 (by decide)
  have : m' = m := Nrm.unique m' m k1 g1 k2
  subst this
  refine ⟨m', e, ?_, g3, by omega, e', g1, g2, same_self _ _ (by omega) (by omega)⟩
  rw [flat_f _ _ g1.all c2 (by omega) (by omega) 100000 (by decide), decide_eq_true g2]
theorem same_other (l m o : List S34) (h : (cyclesR l).2 = 0) (hm : Nrm m) (hc : cyc m = cyc l) (hml : m.length ≤ 4096) (ho : (cyclesR o).2 = 0) :
    ∃ q, script_Normal.f 100000 o = some (q, 0) ∧ vesperref07_Same.f 100000 q m = some (decide (cyc o = cyc l)) ∧ vesperlaw07_flat.f 100000 o l = some (decide (cyc o = cyc l)) := by
  obtain ⟨c1, c2, c3, c4⟩ := cyclesR_ok h
  obtain ⟨o1, o2, o3, o4⟩ := cyclesR_ok ho
  obtain ⟨q, e, g1, g2, g3⟩ := normal_ok o ho 100000 (by decide)
  refine ⟨q, e, ?_, flat_f _ _ o2 c2 (by omega) (by omega) 100000 (by decide)⟩
  rw [same_f _ _ _ (by omega) (by omega)]
  congr 1
  by_cases c : cyc o = cyc l
  · rw [decide_eq_true c, sameR_iff]
    exact Nrm.unique q m g1 hm (by rw [g2, hc, c])
  · rw [decide_eq_false c, ← Bool.not_eq_true, sameR_iff]
    intro x
    subst x
    exact c (by rw [← g2, hc])
/-- Neighbours of such a script. -/
theorem Nrm.at : ∀ (m : List S34) (j : Nat) (h : j + 1 < m.length), Nrm m → alike m[j] m[j + 1] = true → m[j].f0 = 1048576
  | [], j, h, _, _ => by simp at h
  | [s], j, h, _, _ => by simp at h
  | s :: t :: l, 0, h, hn, ha => hn.2.1 ((alike_iff s t).1 ha)
  | s :: t :: l, j + 1, h, hn, ha => Nrm.at (t :: l) j (by simpa using h) hn.2.2 ha
theorem bits_range (x : Int) : 0 ≤ Go.bits .and .i64 x 1099511627775 ∧ Go.bits .and .i64 x 1099511627775 ≤ 1099511627775 := by
  unfold Go.bits
  simp only
  have h : (BitVec.ofInt IntKind.i64.bits x &&& BitVec.ofInt IntKind.i64.bits 1099511627775).toNat ≤ 1099511627775 := by
    rw [BitVec.toNat_and]
    exact Nat.le_trans Nat.and_le_right (by decide)
  rw [IntKind.wrap_i64]
  omega
end Go.Proofs.YtdjffafcmomalaaDoor.Scr
