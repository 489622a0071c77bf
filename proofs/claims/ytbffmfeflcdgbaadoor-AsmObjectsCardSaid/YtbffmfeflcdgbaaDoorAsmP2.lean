/- The plain law of AsmObjects: blocks, names, labels: the document's own answers. -/
import Derived.Test.YtbffmfeflcdgbaaDoorAsmP1
import Derived.Test.YtbffmfeflcdgbaaDoorPObx13
import Derived.Test.YtbffmfeflcdgbaaDoorAsmMp
set_option linter.unusedVariables false
set_option linter.unusedSimpArgs false
namespace Go.Proofs.YtbffmfeflcdgbaaDoor.P
open Go Go.RowKit
open Go.Proofs.YtbffmfeflcdgbaaDoorW.PrintWords Go.Proofs.YtbffmfeflcdgbaaDoor.POb Go.Proofs.YtbffmfeflcdgbaaDoor.Chk Go.Proofs.YtbffmfeflcdgbaaDoor.Nm

theorem dr42 {l : List S42} {k : Nat} (h : k < l.length) : l.drop k = rd_T42 l (k : Int) :: l.drop (k + 1) := by
 unfold rd_T42
 rw [Int.toNat_natCast, List.getD_eq_getElem?_getD, List.getElem?_eq_getElem h, Option.getD_some]
 exact List.drop_eq_getElem_cons h
theorem dr47 {l : List S47} {k : Nat} (h : k < l.length) : l.drop k = rd_T47 l (k : Int) :: l.drop (k + 1) := by
 unfold rd_T47
 rw [Int.toNat_natCast, List.getD_eq_getElem?_getD, List.getElem?_eq_getElem h, Option.getD_some]
 exact List.drop_eq_getElem_cons h

theorem blocks_l (l0 : List S42) (l1 : List S52) (l2 : List S47) (hn : l0.length ≤ 10000000000) (hM : ∀ x ∈ l0, x.f1.length ≤ 10000000000) : ∀ (d k : Nat) (e : Int) (K : Nat), k + d = l0.length → -1 ≤ e → d + 1 ≤ K →
 vesperref14_blocksMay.l0 K e (k : Int) l0 l1 l2 = some (blocksB e (l0.drop k)) := by
 intro d
 induction d with
 | zero =>
  intro k e K hk he hK
  obtain ⟨K, rfl⟩ : ∃ j, K = j + 1 := ⟨K - 1, by omega⟩
  rw [vesperref14_blocksMay.l0, if_neg (by omega), List.drop_eq_nil_of_le (by omega)]
  rfl
 | succ d ih =>
  intro k e K hk he hK
  obtain ⟨K, rfl⟩ : ∃ j, K = j + 1 := ⟨K - 1, by omega⟩
  have hlt : k < l0.length := by omega
  have hm := hM (rd_T42 l0 (k : Int)) (by
   unfold rd_T42
   rw [Int.toNat_natCast, List.getD_eq_getElem?_getD, List.getElem?_eq_getElem hlt, Option.getD_some]
   exact List.getElem_mem hlt)
  rw [dr42 hlt, vesperref14_blocksMay.l0, if_pos (by omega), if_pos (by omega)]
  generalize rd_T42 l0 (k : Int) = b at hm ⊢
  have hw : wrap64 (65536 - (b.f1.length : Int)) = 65536 - (b.f1.length : Int) := by unfold wrap64; omega
  rw [hw]
  by_cases h0 : b.f0 ≤ e
  ·rw [if_pos h0]; simp [blocksB, badB, h0]
  by_cases h1 : (b.f1.length : Int) = 0
  ·rw [if_neg h0, if_pos h1]; simp [blocksB, badB]
   intro _ _ h; exact absurd (by omega : b.f1.length = 0) (by simpa using h)
  by_cases h2 : (b.f1.length : Int) > 65536
  ·rw [if_neg h0, if_neg h1, if_pos h2]
   have : badB e b = true := by
    unfold badB
    rw [decide_eq_true (show (b.f1.length : Int) > 65536 - b.f0 by omega), Bool.or_true]
   simp [blocksB, this]
  by_cases h3 : b.f0 > 65536 - (b.f1.length : Int)
  ·rw [if_neg h0, if_neg h1, if_neg h2, if_pos h3]
   have : badB e b = true := by
    unfold badB
    rw [decide_eq_true (show (b.f1.length : Int) > 65536 - b.f0 by omega), Bool.or_true]
   simp [blocksB, this]
  have hb : badB e b = false := by
   unfold badB
   rw [decide_eq_false h0, decide_eq_false (show ¬ b.f0 < 0 by omega), decide_eq_false h1, decide_eq_false (show ¬ b.f0 ≥ 65536 by omega), decide_eq_false (show ¬ (b.f1.length : Int) > 65536 - b.f0 by omega)]
   rfl
  rw [if_neg h0, if_neg h1, if_neg h2, if_neg h3, show wrap64 (b.f0 + (b.f1.length : Int)) = b.f0 + (b.f1.length : Int) from by unfold wrap64; omega, w1 k (by omega), ih (k + 1) _ K (by omega) (by omega) (by omega)]
  simp [blocksB, hb]

/-! ### Names -/
theorem bt_list (s : ByteArray) (k : Nat) (h : k < s.data.toList.length) : bt s (k : Int) = (((s.data.toList[k]).toNat : Nat) : Int) := by
 have hs : k < s.size := by rw [Lib.size_eq]; exact h
 have := (Go.Proofs.YtbffmfeflcdgbaaDoorW.PrintWords.bt_at s (k : Int) (by rw [Int.toNat_natCast]; exact hs)).symm
 rw [this]
 simp only [Int.toNat_natCast]
 rfl
def okB (b : Nat) : Bool := (decide (97 ≤ b) && decide (b ≤ 122)) || (decide (48 ≤ b) && decide (b ≤ 57)) || decide (b = 45)
set_option maxRecDepth 100000 in
theorem others_ok (c : UInt8) : othersL.contains c = okB c.toNat := by
 have h : ∀ b : Fin 256, othersL.contains (UInt8.ofNat b.val) = okB b.val := by decide
 have := h ⟨c.toNat, c.toNat_lt⟩
 simpa using this
set_option maxRecDepth 100000 in
theorem small_ok (c : UInt8) : smallL.contains c = (decide (97 ≤ c.toNat) && decide (c.toNat ≤ 122)) := by
 have h : ∀ b : Fin 256, smallL.contains (UInt8.ofNat b.val) = (decide (97 ≤ b.val) && decide (b.val ≤ 122)) := by decide
 have := h ⟨c.toNat, c.toNat_lt⟩
 simpa using this
theorem name_pick (n : Nat) (X : Option Bool) : (if (n : Int) < 97 then (if (n : Int) < 48 then (if (n : Int) = 45 then X else some false) else (if (n : Int) > 57 then (if (n : Int) = 45 then X else some false) else X)) else (if (n : Int) > 122 then (if (n : Int) < 48 then (if (n : Int) = 45 then X else some false) else (if (n : Int) > 57 then (if (n : Int) = 45 then X else some false) else X)) else X)) = if okB n then X else some false := by
 unfold okB
 by_cases a1 : 97 ≤ n <;> by_cases a2 : n ≤ 122 <;> by_cases a3 : 48 ≤ n <;> by_cases a4 : n ≤ 57 <;> by_cases a5 : n = 45 <;> first | omega | (simp only [a1, a2, a3, a4, a5, decide_true, decide_false, Bool.and_true, Bool.and_false, Bool.or_true, Bool.or_false, Bool.true_or, if_true]; repeat (first | rw [if_pos (by omega)] | rw [if_neg (by omega)]) ; try rfl)
theorem name_l (s : ByteArray) (hs : s.data.toList.length ≤ 100) : ∀ (d k K : Nat), k + d = s.data.toList.length → d + 1 ≤ K → vesperref13_IsName.l0 K s (k : Int) = some ((s.data.toList.drop k).all othersL.contains) := by
 intro d
 induction d with
 | zero =>
  intro k K hk hK
  obtain ⟨K, rfl⟩ : ∃ j, K = j + 1 := ⟨K - 1, by omega⟩
  rw [vesperref13_IsName.l0, if_neg (by rw [Lib.size_eq]; omega), List.drop_eq_nil_of_le (by omega)]
  rfl
 | succ d ih =>
  intro k K hk hK
  obtain ⟨K, rfl⟩ : ∃ j, K = j + 1 := ⟨K - 1, by omega⟩
  have hlt : k < s.data.toList.length := by omega
  rw [vesperref13_IsName.l0, if_pos (by rw [Lib.size_eq]; omega), if_pos (by omega), bt_list s k hlt, w1 k (by omega), ih (k + 1) K (by omega) (by omega), name_pick, List.drop_eq_getElem_cons hlt, List.all_cons, others_ok]
  cases okB (s.data.toList[k]).toNat <;> rfl
theorem name_f (s : ByteArray) (K : Nat) (hK : 20 ≤ K) : vesperref13_IsName.f K s = some (nameB s) := by
 obtain ⟨K, rfl⟩ : ∃ j, K = j + 1 := ⟨K - 1, by omega⟩
 unfold vesperref13_IsName.f
 rw [Lib.toList_data]
 cases hd : s.data.toList with
 | nil =>
  rw [if_pos rfl, vesperref13_IsName.j0, if_pos rfl]
  unfold nameB; rw [hd]
 | cons c r =>
  have hz : s.size = r.length + 1 := by rw [Lib.size_eq, hd]; rfl
  rw [if_neg (by simp)]
  have hn : nameB s = (decide (r.length < 16) && smallL.contains c && r.all othersL.contains) := by unfold nameB; rw [hd]
  by_cases h1 : r.length < 16
  ·have hb : bt s 0 = ((c.toNat : Nat) : Int) := by
    have := bt_list s 0 (by rw [hd]; simp)
    simpa [hd] using this
   have hl := name_l s (by rw [hd]; simp; omega) (r.length + 1) 0 K (by rw [hd]; simp) (by omega)
   rw [hd, List.drop_zero, List.all_cons] at hl
   have h0 : vesperref13_IsName.l0 K s 0 = some (othersL.contains c && r.all othersL.contains) := hl
   rw [if_neg (by omega), if_pos (by omega), hb, hn, decide_eq_true h1, small_ok]
   by_cases a1 : (c.toNat : Int) < 97
   ·rw [if_pos a1, vesperref13_IsName.j0, if_pos rfl, decide_eq_false (show ¬ 97 ≤ c.toNat by omega)]; rfl
   rw [if_neg a1, vesperref13_IsName.j0, decide_eq_true (show 97 ≤ c.toNat by omega)]
   by_cases a2 : (c.toNat : Int) > 122
   ·rw [decide_eq_true a2, if_pos rfl, decide_eq_false (show ¬ c.toNat ≤ 122 by omega)]; rfl
   rw [decide_eq_false a2, if_neg (by decide), h0, decide_eq_true (show c.toNat ≤ 122 by omega), small_others c (by rw [small_ok, decide_eq_true (show 97 ≤ c.toNat by omega), decide_eq_true (show c.toNat ≤ 122 by omega)]; rfl)]; rfl
  rw [if_pos (by omega), vesperref13_IsName.j0, if_pos rfl, hn, decide_eq_false h1]; rfl
end Go.Proofs.YtbffmfeflcdgbaaDoor.P
