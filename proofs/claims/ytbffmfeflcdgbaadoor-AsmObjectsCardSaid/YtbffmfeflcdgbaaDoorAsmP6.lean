/- The plain law of AsmObjects: the document's Bytes. -/
import Derived.Test.YtbffmfeflcdgbaaDoorAsmP1
import Derived.Test.YtbffmfeflcdgbaaDoorAsmBytW
set_option linter.unusedVariables false
set_option linter.unusedSimpArgs false
namespace Go.Proofs.YtbffmfeflcdgbaaDoor.P
open Go Go.RowKit
open Go.Proofs.YtbffmfeflcdgbaaDoorW.PrintWords Go.Proofs.YtbffmfeflcdgbaaDoor.POb Go.Proofs.YtbffmfeflcdgbaaDoor.Chk Go.Proofs.YtbffmfeflcdgbaaDoor.Byt

/-- The cut of a row, from a on. -/
def cut (row : List Int) (a b : Nat) : List Int := (row.take b).drop a
theorem rd_at (l : List Int) (k : Nat) (h : k < l.length) : rd l (k : Int) = l[k] := by
 unfold rd
 simp [List.getD_eq_getElem?_getD, List.getElem?_eq_getElem h]
theorem cut_get (row : List Int) (a b i : Nat) : (cut row a b)[i]? = if a + i < b then row[a + i]? else none := by
 unfold cut
 rw [List.getElem?_drop, List.getElem?_take]
theorem cut_len (row : List Int) (a b : Nat) : (cut row a b).length = min b row.length - a := by
 unfold cut; rw [List.length_drop, List.length_take]
theorem put_get (row l : List Int) (A i : Nat) (h : A ≤ row.length) : (putAt row A l)[i]? = if i < A then row[i]? else if i < A + l.length then l[i - A]? else row[i]? := by
 unfold putAt
 rw [List.append_assoc, List.getElem?_append]
 have e : (row.take A).length = A := by rw [List.length_take]; omega
 rw [e]
 by_cases h1 : i < A
 ·rw [if_pos h1, if_pos h1, List.getElem?_take, if_pos h1]
 rw [if_neg h1, if_neg h1, List.getElem?_append]
 by_cases h2 : i < A + l.length
 ·rw [if_pos (by omega), if_pos h2]
 rw [if_neg (by omega), if_neg h2, List.getElem?_drop]
 congr 1; omega
theorem put_snoc (row l : List Int) (A k : Nat) (hk : k < l.length) (hf : A + l.length ≤ row.length) : putAt row A (l.take (k + 1)) = (putAt row A (l.take k)).set (A + k) l[k] := by
 apply List.ext_getElem?
 intro i
 have e1 : (l.take (k + 1)).length = k + 1 := by rw [List.length_take]; omega
 have e2 : (l.take k).length = k := by rw [List.length_take]; omega
 have e3 : (putAt row A (l.take k)).length = row.length := putAt_length (by rw [e2]; omega)
 rw [List.getElem?_set, put_get _ _ _ _ (by omega), put_get _ _ _ _ (by omega), e1, e2, e3, List.getElem?_take, List.getElem?_take]
 by_cases h : A + k = i
 ·rw [if_pos h, if_neg (by omega), if_pos (by omega), if_pos (by omega), if_pos (by omega)]
  rw [show i - A = k by omega, List.getElem?_eq_getElem hk]
 rw [if_neg h]
 by_cases h1 : i < A
 ·rw [if_pos h1, if_pos h1]
 rw [if_neg h1, if_neg h1]
 by_cases h2 : i < A + k
 ·rw [if_pos (by omega), if_pos h2, if_pos (by omega), if_pos (by omega)]
 rw [if_neg (by omega), if_neg h2]
theorem cut_set_in (row : List Int) (a b p : Nat) (v : Int) (h1 : a ≤ p) (h2 : p < b) (h3 : p < row.length) : cut (row.set p v) a b = (cut row a b).set (p - a) v := by
 apply List.ext_getElem?
 intro i
 rw [List.getElem?_set, cut_get, cut_get, List.getElem?_set, cut_len]
 by_cases h : p = a + i
 ·rw [if_pos h, if_pos (by omega), if_pos (by omega), if_pos (by omega), if_pos (by omega)]
 rw [if_neg h, if_neg (show ¬ p - a = i by omega)]
theorem cut_set_out (row : List Int) (a b p : Nat) (v : Int) (h : p < a ∨ b ≤ p) : cut (row.set p v) a b = cut row a b := by
 apply List.ext_getElem?
 intro i
 rw [cut_get, cut_get, List.getElem?_set]
 by_cases h1 : a + i < b
 ·rw [if_pos h1, if_pos h1, if_neg (by omega)]
 rw [if_neg h1, if_neg h1]

theorem bytes_in (l0 : List S42) (l1 : List S52) (l2 : List S47) (a b : Nat) (hab : a ≤ b) (hb2 : b ≤ 65536) (i : Nat) (hi : i < l0.length) (hl0 : l0.length ≤ 10000000000) (row : List Int) (hrow : row.length = 65536)
 (A : Nat) (x : S42) (hx : rd_T42 l0 (i : Int) = x) (hA : x.f0 = (A : Int)) (hf : A + x.f1.length ≤ 65536) : ∀ (d k K : Nat), k + d = x.f1.length →
 vesperref14_Bytes.l1 (K + d + 1) (a : Int) (b : Int) (cut (putAt row A (x.f1.take k)) a b) (i : Int) (k : Int) l0 l1 l2 = vesperref14_Bytes.l0 K (a : Int) (b : Int) (cut (putAt row A x.f1) a b) ((i + 1 : Nat) : Int) l0 l1 l2 := by
 intro d
 induction d with
 | zero =>
  intro k K hk
  rw [show K + 0 + 1 = K + 1 from rfl, vesperref14_Bytes.l1, if_pos (by omega), if_pos (by omega), hx, if_neg (by omega), w1 i (by omega), List.take_of_length_le (by omega)]
 | succ d ih =>
  intro k K hk
  have hlt : k < x.f1.length := by omega
  have hkl : ((k : Nat) : Int) < ((x.f1.length : Nat) : Int) := by omega
  have hil : ((i : Nat) : Int) < ((l0.length : Nat) : Int) := by omega
  have hi0 : (0 : Int) ≤ ((i : Nat) : Int) := by omega
  have hk0 : (0 : Int) ≤ ((k : Nat) : Int) := by omega
  have hkb : k ≤ 100000000000 := by omega
  have hw : wrap64 ((A : Int) + (k : Int)) = ((A + k : Nat) : Int) := by unfold wrap64; omega
  have hfr : A + x.f1.length ≤ row.length := by rw [hrow]; exact hf
  have hpl0 : A + k < row.length := Nat.lt_of_lt_of_le (Nat.add_lt_add_left hlt A) hfr
  have hba : min b row.length - a = b - a := by rw [hrow, Nat.min_eq_left hb2]
  have hkd : k + 1 + d = x.f1.length := by rw [← hk, Nat.add_assoc, Nat.add_comm 1 d]
  have hnext := ih (k + 1) K hkd
  have hKK : K + (d + 1) + 1 = (K + d + 1) + 1 := rfl
  have hlen : (putAt row A (x.f1.take k)).length = row.length := putAt_length (row := row) (a := A) (l := x.f1.take k) (Nat.le_trans (Nat.add_le_add_left (by rw [List.length_take]; exact Nat.min_le_right _ _) A) hfr)
  have hs : putAt row A (x.f1.take (k + 1)) = (putAt row A (x.f1.take k)).set (A + k) (x.f1[k]) := put_snoc row x.f1 A k hlt hfr
  rw [hs] at hnext
  clear ih hs
  rw [hKK, vesperref14_Bytes.l1, if_pos hi0, if_pos hil, hx, if_pos hkl, hA, hw, w1 k hkb]
  by_cases g1 : a ≤ A + k
  ·have t1 : ((A + k : Nat) : Int) ≥ (a : Int) := Int.ofNat_le.2 g1
   rw [if_pos t1]
   by_cases g2 : A + k < b
   ·have t2 : ((A + k : Nat) : Int) < (b : Int) := Int.ofNat_lt.2 g2
    have t3 : (0 : Int) ≤ ((A + k - a : Nat) : Int) := Int.natCast_nonneg _
    have hw2 : wrap64 (((A + k : Nat) : Int) - (a : Int)) = ((A + k - a : Nat) : Int) := by clear hnext hlen hrow; unfold wrap64; omega
    have t4 : A + k - a < b - a := by clear hnext hlen hrow; omega
    have hcl : (cut (putAt row A (x.f1.take k)) a b).length = b - a := by rw [cut_len, hlen]; exact hba
    have t5 : ((A + k - a : Nat) : Int) < ((cut (putAt row A (x.f1.take k)) a b).length : Int) := by rw [hcl]; exact Int.ofNat_lt.2 t4
    rw [cut_set_in (putAt row A (x.f1.take k)) a b (A + k) (x.f1[k]) g1 g2 (by rw [hlen]; exact hpl0)] at hnext
    rw [if_pos t2, if_pos hk0, hw2, if_pos t3, if_pos t5, Int.toNat_natCast, rd_at _ _ hlt]
    exact hnext
   have t2 : ¬ ((A + k : Nat) : Int) < (b : Int) := fun h => g2 (Int.ofNat_lt.1 h)
   rw [cut_set_out (putAt row A (x.f1.take k)) a b (A + k) (x.f1[k]) (.inr (Nat.le_of_not_lt g2))] at hnext
   rw [if_neg t2]
   exact hnext
  have t1 : ¬ ((A + k : Nat) : Int) ≥ (a : Int) := fun h => g1 (Int.ofNat_le.1 h)
  rw [cut_set_out (putAt row A (x.f1.take k)) a b (A + k) (x.f1[k]) (.inl (Nat.lt_of_not_le g1))] at hnext
  rw [if_neg t1]
  exact hnext

theorem drp42 {l : List S42} {k : Nat} (h : k < l.length) : l.drop k = rd_T42 l (k : Int) :: l.drop (k + 1) := by
 unfold rd_T42
 rw [Int.toNat_natCast, List.getD_eq_getElem?_getD, List.getElem?_eq_getElem h, Option.getD_some]
 exact List.drop_eq_getElem_cons h
theorem bytes_l (l0 : List S42) (l1 : List S52) (l2 : List S47) (a b : Nat) (hab : a ≤ b) (hb2 : b ≤ 65536) (hl0 : l0.length ≤ 10000000000) : ∀ (d i : Nat) (e : Int) (row : List Int), i + d = l0.length → row.length = 65536 → blocksB e (l0.drop i) = true →
 ∃ F, ∀ K, F ≤ K → vesperref14_Bytes.l0 K (a : Int) (b : Int) (cut row a b) (i : Int) l0 l1 l2 = some (cut (layB (l0.drop i) row) a b, 0) := by
 intro d
 induction d with
 | zero =>
  intro i e row hi hrow hbk
  clear hrow
  refine ⟨1, fun K hK => ?_⟩
  obtain ⟨K, rfl⟩ : ∃ j, K = j + 1 := ⟨K - 1, by omega⟩
  rw [vesperref14_Bytes.l0, if_neg (by omega), List.drop_eq_nil_of_le (by omega)]
  rfl
 | succ d ih =>
  intro i e row hi hrow hbk
  have HRW := Aside0.mk hrow
  clear hrow
  have hlt : i < l0.length := by omega
  rw [drp42 hlt] at hbk ⊢
  generalize hx : rd_T42 l0 (i : Int) = x at hbk ⊢
  obtain ⟨k1, k2, k3, k4⟩ := blk_ok hbk
  obtain ⟨A, hA⟩ := Int.eq_ofNat_of_zero_le k1
  obtain ⟨F, hF⟩ := ih (i + 1) _ (putAt row A x.f1) (by omega) (by rw [putAt_length (row := row) (a := A) (l := x.f1) (by rw [HRW.out]; omega)]; exact HRW.out) k4
  refine ⟨F + x.f1.length + 3, fun K hK => ?_⟩
  obtain ⟨K, rfl⟩ : ∃ j, K = (j + x.f1.length + 1) + 1 := ⟨K - (x.f1.length + 2), by omega⟩
  have hp0 : putAt row A (x.f1.take 0) = row := by unfold putAt; simp
  have h1 := bytes_in l0 l1 l2 a b hab hb2 i hlt hl0 row HRW.out A x hx hA (by omega) x.f1.length 0 K (by omega)
  rw [hp0] at h1
  rw [vesperref14_Bytes.l0, if_pos (by omega)]
  have h2 := h1.trans (hF K (by omega))
  rw [show layB (x :: l0.drop (i + 1)) row = layB (l0.drop (i + 1)) (putAt row A x.f1) from by rw [layB, hA, Int.toNat_natCast]]
  exact h2
theorem zero_cut (n p q : Nat) (h : q ≤ n) : cut (List.replicate n (0 : Int)) p q = List.replicate (q - p) 0 := by
 unfold cut
 rw [List.take_replicate, List.drop_replicate]
 congr 1; omega
theorem V_good {rc : Int} {l0 : List S42} {a b : Int} (h : rc = 0 ∧ 0 ≤ a ∧ a ≤ b ∧ b ≤ 65536) : bytesV rc l0 a b = (cut (layB l0 (List.replicate 65536 0)) a.toNat b.toNat, 0) := by
 unfold bytesV cut
 exact if_pos h
theorem V_bad {rc : Int} {l0 : List S42} {a b : Int} (h : ¬ (rc = 0 ∧ 0 ≤ a ∧ a ≤ b ∧ b ≤ 65536)) : bytesV rc l0 a b = ([], 1) := by
 unfold bytesV
 exact if_neg h
theorem bytes_g (l0 : List S42) (l1 : List S52) (l2 : List S47) (rc : Int) (p q : Nat) (Z : List Int) (hZ : Z.length = 65536) (hz : cut Z p q = List.replicate (q - p) 0) (hpq : p ≤ q) (hq : q ≤ 65536) (hl0 : l0.length ≤ 10000000000) (g0 : rc = 0) (hbk : blocksB (-1) l0 = true) (FC : Nat) (hck : ∀ K, FC ≤ K → vesperref14_Check.f K l0 l1 l2 = some rc) :
 ∃ F, ∀ K, F ≤ K → vesperref14_Bytes.f K l0 l1 l2 (p : Int) (q : Int) = some (cut (layB l0 Z) p q, 0) := by
 obtain ⟨F, hF⟩ := bytes_l l0 l1 l2 p q hpq hq hl0 l0.length 0 (-1) Z (Nat.zero_add _) hZ (by rw [List.drop_zero]; exact hbk)
 clear hZ
 refine ⟨F + FC + 2, fun K hK => ?_⟩
 have hc := hck K (by omega)
 obtain ⟨K, rfl⟩ : ∃ j, K = j + 1 := ⟨K - 1, by omega⟩
 have hw : wrap64 ((q : Int) - (p : Int)) = ((q - p : Nat) : Int) := by unfold wrap64; omega
 have h2 := hF K (by omega)
 rw [hz, List.drop_zero] at h2
 unfold vesperref14_Bytes.f
 rw [hc, Option.bind_some, if_pos g0, if_neg (by omega), if_neg (by omega), vesperref14_Bytes.j0, decide_eq_false (by omega), if_neg (by decide), hw, if_pos (by omega), Int.toNat_natCast, if_pos (by omega)]
 exact h2
theorem bytes_f (l0 : List S42) (l1 : List S52) (l2 : List S47) (rc a b : Int) (hl0 : l0.length ≤ 10000000000) (hrc : rc = 0 → blocksB (-1) l0 = true) (FC : Nat) (hck : ∀ K, FC ≤ K → vesperref14_Check.f K l0 l1 l2 = some rc) :
 ∃ F, ∀ K, F ≤ K → vesperref14_Bytes.f K l0 l1 l2 a b = some (bytesV rc l0 a b) := by
 by_cases hgood : rc = 0 ∧ 0 ≤ a ∧ a ≤ b ∧ b ≤ 65536
 ·rw [V_good hgood]
  obtain ⟨g0, g1, g2, g3⟩ := hgood
  obtain ⟨p, rfl⟩ := Int.eq_ofNat_of_zero_le g1
  obtain ⟨q, rfl⟩ := Int.eq_ofNat_of_zero_le (show 0 ≤ b by omega)
  rw [Int.toNat_natCast, Int.toNat_natCast]
  exact bytes_g l0 l1 l2 rc p q _ List.length_replicate (zero_cut 65536 p q (by omega)) (by omega) (by omega) hl0 g0 (hrc g0) FC hck
 rw [V_bad hgood]
 refine ⟨FC + 2, fun K hK => ?_⟩
 have hc := hck K (by omega)
 obtain ⟨K, rfl⟩ : ∃ j, K = j + 1 := ⟨K - 1, by omega⟩
 have hj : ∀ t : Bool, t = true → vesperref14_Bytes.j0 (K + 1) a b t l0 l1 l2 = some ([], 1) := fun t ht => by rw [ht, vesperref14_Bytes.j0, if_pos rfl]
 unfold vesperref14_Bytes.f
 rw [hc, Option.bind_some]
 by_cases g0 : rc = 0
 ·rw [if_pos g0]
  by_cases g1 : a < 0
  ·rw [if_pos g1, hj true rfl]
  rw [if_neg g1]
  by_cases g2 : a > b
  ·rw [if_pos g2, hj true rfl]
  rw [if_neg g2, hj _ (decide_eq_true (by omega))]
 rw [if_neg g0, hj true rfl]
end Go.Proofs.YtbffmfeflcdgbaaDoor.P
