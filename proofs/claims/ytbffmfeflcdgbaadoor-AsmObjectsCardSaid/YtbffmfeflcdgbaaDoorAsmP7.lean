/- The plain law of AsmObjects, whole: whatever object. -/
import Derived.Test.YtbffmfeflcdgbaaDoorAsmLaw
import Derived.Test.YtbffmfeflcdgbaaDoorAsmP3
import Derived.Test.YtbffmfeflcdgbaaDoorAsmP5
import Derived.Test.YtbffmfeflcdgbaaDoorAsmP6
set_option linter.unusedVariables false
set_option linter.unusedSimpArgs false
namespace Go.Proofs.YtbffmfeflcdgbaaDoor.P
open Go Go.RowKit
open Go.Proofs.YtbffmfeflcdgbaaDoorW.PrintWords Go.Proofs.YtbffmfeflcdgbaaDoor.POb Go.Proofs.YtbffmfeflcdgbaaDoor.Chk Go.Proofs.YtbffmfeflcdgbaaDoor.Byt Go.Proofs.YtbffmfeflcdgbaaDoor.Law

theorem large_f (l0 : List S42) (l1 : List S52) (l2 : List S47) (h0 : l0.length ≤ 1000000000000000) (h1 : l1.length ≤ 1000000000000000) (h2 : l2.length ≤ 1000000000000000) (hb : ∀ x ∈ l0, x.f1.length ≤ 1000000000000000) :
 ∃ r F, (∀ K, F ≤ K → vesperlaw14_large.f K l0 l1 l2 = some r) ∧ (r = false → l0.length + l1.length + l2.length + sumL l0 ≤ 2147483647) := by
 have hw : wrap64 (wrap64 ((l0.length : Int) + (l1.length : Int)) + (l2.length : Int)) = (l0.length : Int) + (l1.length : Int) + (l2.length : Int) := by unfold wrap64; omega
 by_cases hbig : (l0.length : Int) + (l1.length : Int) + (l2.length : Int) ≤ 2147483647
 ·obtain ⟨r, hr, hs⟩ := large_l l0 l1 l2 (by omega) hb l0.length 0 ((l0.length : Int) + (l1.length : Int) + (l2.length : Int)) (by omega) (by omega) (by omega)
  refine ⟨r, l0.length + 1, fun K hK => ?_, fun h => ?_⟩
  ·unfold vesperlaw14_large.f
   rw [hw]
   exact hr K hK
  have := hs h
  rw [List.drop_zero] at this
  omega
 refine ⟨true, 1, fun K hK => ?_, fun h => by cases h⟩
 obtain ⟨K, rfl⟩ : ∃ j, K = j + 1 := ⟨K - 1, by omega⟩
 unfold vesperlaw14_large.f
 rw [hw, vesperlaw14_large.l0]
 have hd : decide ((l0.length : Int) + (l1.length : Int) + (l2.length : Int) > 2147483647) = true := decide_eq_true (by omega)
 by_cases hz : (0 : Int) < (l0.length : Int)
 ·rw [if_pos hz, if_neg hbig, hd]
 rw [if_neg hz, hd]
theorem blk_all : ∀ (l : List S42) (e : Int), blocksB e l = true → ∀ b ∈ l, 0 ≤ b.f0 ∧ b.f0 + (b.f1.length : Int) ≤ 65536
 | x :: r, e, h, b, hb => by
  obtain ⟨k1, k2, k3, k4⟩ := blk_ok h
  rcases List.mem_cons.1 hb with rfl | hb
  ·exact ⟨k1, k2⟩
  exact blk_all r _ k4 b hb
theorem plain (l0 : List S42) (l1 : List S52) (l2 : List S47) (nm : ByteArray) (a b : Int) (h0 : l0.length ≤ 1000000000000000) (h1 : l1.length ≤ 1000000000000000) (h2 : l2.length ≤ 1000000000000000) (hb : ∀ x ∈ l0, x.f1.length ≤ 1000000000000000)
 (h8 : ∀ x ∈ l0, Bytes8 x.f1) : ∃ K big mb fr, vesperlaw14_large.f K l0 l1 l2 = some big ∧ (big = false → Pl K mb l0 l1 l2 nm a b fr) := by
 obtain ⟨big, FL, hL, hsum⟩ := large_f l0 l1 l2 h0 h1 h2 hb
 cases big with
 | true => exact ⟨FL, true, false, (0, false), hL FL (Nat.le_refl _), fun h => by cases h⟩
 | false =>
  have hS := hsum rfl
  have hM : ∀ x ∈ l0, x.f1.length ≤ 2147483647 := fun x hx => by have := sum_mem l0 x hx; omega
  have n0 : l0.length ≤ 2147483647 := by omega
  have n1 : l1.length ≤ 2147483647 := by omega
  have n2 : l2.length ≤ 2147483647 := by omega
  clear hsum hS h0 h1 h2 hb
  -- marks
  obtain ⟨mb, FM, hmk⟩ : ∃ mb FM, blocksB (-1) l0 = true → ∀ K, FM ≤ K → asm_marked.f K l0 l1 l2 = some mb ∧ vesperref14_marksMay.f K l0 l1 l2 = some mb := by
   cases hbk : blocksB (-1) l0 with
   | false => exact ⟨false, 0, fun h => by cases h⟩
   | true =>
    obtain ⟨r, F, hr⟩ := mark_f l0 l1 l2 (by omega) (by omega) (fun x hx => ⟨(blk_all l0 _ hbk x hx).1, (blk_all l0 _ hbk x hx).2, h8 x hx⟩)
    exact ⟨r, F, fun _ => hr⟩
  -- the document's Check
  have hck : ∀ K, FM + l0.length + (l2.length * (l2.length + 4) + 21) + 1 ≤ K → vesperref14_Check.f K l0 l1 l2 = some (R6 l0 mb l2) := by
   intro K hK
   have hbl : vesperref14_blocksMay.f K l0 l1 l2 = some (blocksB (-1) l0) := by
    have := blocks_l l0 l1 l2 (by omega) (fun x hx => by have := hM x hx; omega) l0.length 0 (-1) K (by omega) (by omega) (by omega)
    rw [List.drop_zero] at this
    exact this
   unfold vesperref14_Check.f
   rw [hbl, Option.bind_some]
   cases hbk : blocksB (-1) l0 with
   | false => rw [if_neg (by decide), R6_no0 hbk]
   | true =>
    rw [if_pos rfl, (hmk hbk K (by omega)).2, Option.bind_some]
    cases hmb : mb with
    | false => rw [if_neg (by decide), R6_no1 rfl]
    | true =>
     rw [if_pos rfl, labels_f l2 (by omega) K (by omega), Option.bind_some]
     cases hlb : labelsB [] none l2 with
     | false => rw [if_neg (by decide), R6_no2 hlb]
     | true => rw [if_pos rfl, R6_ok hbk rfl hlb]
  obtain ⟨FB, hby⟩ := bytes_f l0 l1 l2 (R6 l0 mb l2) a b (by omega) (R6_zero l0 mb l2) _ hck
  obtain ⟨fr, hfr⟩ := find_f nm l0 l1 l2 (by omega)
  have hVl : (bytesV (R6 l0 mb l2) l0 a b).1.length ≤ 65536 := by
   by_cases hg : R6 l0 mb l2 = 0 ∧ 0 ≤ a ∧ a ≤ b ∧ b ≤ 65536
   ·rw [V_good hg]
    show (cut _ _ _).length ≤ _
    rw [cut_len]
    have : b.toNat ≤ 65536 := by omega
    exact Nat.le_trans (Nat.sub_le _ _) (Nat.le_trans (Nat.min_le_left _ _) this)
   rw [V_bad hg]; exact Nat.zero_le _
  generalize hKd : FL + FM + l0.length + l1.length + (l2.length * (l2.length + 4) + 21) + l2.length + FB + 2147483647 + 65536 + 10 = K
  refine ⟨K, false, mb, fr, hL K (by omega), fun _ => ?_⟩
  exact {
   n0 := by omega
   n1 := by omega
   n2 := by omega
   nb := fun x hx => by have := hM x hx; omega
   mkd := fun h => (hmk h K (by omega)).1
   ck := hck K (by omega)
   by_ := hby K (by omega)
   f1 := (hfr K (by omega)).1
   f2 := (hfr K (by omega)).2
   al := alike_f l0 l1 l2 2147483647 hM (by omega) (by omega) (by omega) (by omega) K (by omega)
   sm := same_f _ (Nat.le_trans hVl (by omega)) K (by omega) }
end Go.Proofs.YtbffmfeflcdgbaaDoor.P
