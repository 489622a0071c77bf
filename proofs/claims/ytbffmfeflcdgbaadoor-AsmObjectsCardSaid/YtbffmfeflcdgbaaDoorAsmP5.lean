/- The plain law of AsmObjects: marks: the code's answer is the document's. -/
import Derived.Test.YtbffmfeflcdgbaaDoorAsmP4
set_option linter.unusedVariables false
set_option linter.unusedSimpArgs false
namespace Go.Proofs.YtbffmfeflcdgbaaDoor.P
open Go Go.RowKit
open Go.Proofs.YtbffmfeflcdgbaaDoorW.PrintWords Go.Proofs.YtbffmfeflcdgbaaDoor.POb Go.Proofs.YtbffmfeflcdgbaaDoor.Code

theorem mark_in (l0 : List S42) (l1 : List S52) (l2 : List S47) (h0 : l0.length ≤ 10000000000) (h1 : l1.length ≤ 10000000000) (i : Nat) (hi : i < l0.length)
 (b : S42) (hb : rd_T42 l0 (i : Int) = b) (hv0 : 0 ≤ b.f0) (hv1 : b.f0 + (b.f1.length : Int) ≤ 65536) (h8 : Bytes8 b.f1)
 (ihP : ∀ m : Nat, m ≤ l1.length → ∃ r F, ∀ K, F ≤ K → asm_marked.l0 K (m : Int) l0 (l0.length : Int) ((i + 1 : Nat) : Int) l0 l1 l2 = some r ∧ vesperref14_marksMay.l0 K (m : Int) ((i + 1 : Nat) : Int) l0 l1 l2 = some r) :
 ∀ (e a m : Nat), a + e = b.f1.length → m ≤ l1.length → (a = 0 ∨ 1 ≤ m) → ∃ r F, ∀ K, F ≤ K →
  asm_marked.l1 K (m : Int) (a : Int) l0 (l0.length : Int) (i : Int) l0 l1 l2 b.f0 b.f1 = some r ∧
  vesperref14_marksMay.l1 K (m : Int) (i : Int) (b.f0 + (a : Int)) (b.f0 + (b.f1.length : Int)) (decide (a = 0)) l0 l1 l2 = some r := by
 intro e
 induction e using Nat.strongRecOn with
 | _ e ih =>
 intro a m hae hm ham
 by_cases hlt : a < b.f1.length
 ·by_cases hmm : m < l1.length
  ·generalize hk : rd_T52 l1 (m : Int) = mk
   have hw1 : wrap64 (b.f0 + (a : Int)) = b.f0 + (a : Int) := by unfold wrap64; omega
   have hw2 : wrap64 ((b.f1.length : Int) - (a : Int)) = (b.f1.length : Int) - (a : Int) := by unfold wrap64; omega
   have hw3 : wrap64 (b.f0 + (b.f1.length : Int) - (b.f0 + (a : Int))) = (b.f1.length : Int) - (a : Int) := by unfold wrap64; omega
   -- the way out with 'no'
   have hno : (mk.f0 ≠ b.f0 + (a : Int) ∨ mk.f1 < 1 ∨ mk.f1 > (b.f1.length : Int) - (a : Int)) → ∃ r F, ∀ K, F ≤ K →
    asm_marked.l1 K (m : Int) (a : Int) l0 (l0.length : Int) (i : Int) l0 l1 l2 b.f0 b.f1 = some r ∧
    vesperref14_marksMay.l1 K (m : Int) (i : Int) (b.f0 + (a : Int)) (b.f0 + (b.f1.length : Int)) (decide (a = 0)) l0 l1 l2 = some r := by
    intro hbad
    refine ⟨false, 2, fun K hK => ?_⟩
    obtain ⟨K, rfl⟩ : ∃ j, K = j + 1 + 1 := ⟨K - 2, by omega⟩
    refine ⟨?_, ?_⟩
    ·rw [asm_marked.l1, if_pos (by omega), if_neg (by omega), if_pos (by omega), if_pos (by omega), hk, hw1, hw2]
     by_cases c1 : mk.f0 = b.f0 + (a : Int)
     ·rw [if_pos c1]
      by_cases c2 : mk.f1 < 1
      ·rw [if_pos c2, asm_marked.j2, if_pos rfl]
      rw [if_neg c2, if_pos (by omega), asm_marked.j2, if_pos rfl]
     rw [if_neg c1, asm_marked.j2, if_pos rfl]
    rw [vesperref14_marksMay.l1, if_pos (by omega), if_neg (by omega), if_pos (by omega), if_pos (by omega), hk, hw3]
    by_cases c1 : mk.f0 = b.f0 + (a : Int)
    ·rw [if_pos c1]
     by_cases c2 : mk.f1 < 1
     ·rw [if_pos c2, vesperref14_marksMay.j2, if_pos rfl]
     rw [if_neg c2, decide_eq_true (show mk.f1 > (b.f1.length : Int) - (a : Int) by omega), vesperref14_marksMay.j2, if_pos rfl]
    rw [if_neg c1, vesperref14_marksMay.j2, if_pos rfl]
   by_cases c1 : mk.f0 = b.f0 + (a : Int)
   case neg => exact hno (.inl c1)
   by_cases c2 : mk.f1 < 1
   case pos => exact hno (.inr (.inl c2))
   by_cases c3 : mk.f1 > (b.f1.length : Int) - (a : Int)
   case pos => exact hno (.inr (.inr c3))
   clear hno
   obtain ⟨q, hq⟩ := Int.eq_ofNat_of_zero_le (show 0 ≤ mk.f1 by omega)
   have hw4 : wrap64 ((a : Int) + mk.f1) = ((a + q : Nat) : Int) := by unfold wrap64; omega
   have hw5 : wrap64 (b.f0 + (a : Int) - b.f0) = (a : Int) := by unfold wrap64; omega
   have hw6 : wrap64 (b.f0 + (a : Int) + mk.f1) = b.f0 + ((a + q : Nat) : Int) := by unfold wrap64; omega
   have hw7 : wrap64 ((m : Int) - 1) = (m : Int) - 1 := by unfold wrap64; omega
   -- are both of one kind?
   have hsame : ∃ s : Bool, (∀ K, asm_marked.l1 (K + 1) (m : Int) (a : Int) l0 (l0.length : Int) (i : Int) l0 l1 l2 b.f0 b.f1 = asm_marked.j2 K (m : Int) (a : Int) l0 (l0.length : Int) (i : Int) s l0 l1 l2 b.f0 b.f1 mk.f0 mk.f1 mk.f2) ∧
    (∀ K, vesperref14_marksMay.l1 (K + 1 + 1) (m : Int) (i : Int) (b.f0 + (a : Int)) (b.f0 + (b.f1.length : Int)) (decide (a = 0)) l0 l1 l2 = vesperref14_marksMay.j3 K (m : Int) (i : Int) (b.f0 + (a : Int)) (b.f0 + (b.f1.length : Int)) s l0 l1 l2) := by
    by_cases ha : a = 0
    ·refine ⟨false, fun K => ?_, fun K => ?_⟩
     ·rw [asm_marked.l1, if_pos (by omega), if_neg (by omega), if_pos (by omega), if_pos (by omega), hk, hw1, hw2, if_pos c1, if_neg c2, if_neg c3, if_neg (by omega)]
     rw [vesperref14_marksMay.l1, if_pos (by omega), if_neg (by omega), if_pos (by omega), if_pos (by omega), hk, hw3, if_pos c1, if_neg c2, decide_eq_false c3, vesperref14_marksMay.j2, if_neg (by decide), decide_eq_true ha, if_pos rfl]
    refine ⟨(rd_T52 l1 ((m : Int) - 1)).f2 == mk.f2, fun K => ?_, fun K => ?_⟩
    ·rw [asm_marked.l1, if_pos (by omega), if_neg (by omega), if_pos (by omega), if_pos (by omega), hk, hw1, hw2, hw7, if_pos c1, if_neg c2, if_neg c3, if_pos (by omega), if_pos (by omega), if_pos (by omega)]
    rw [vesperref14_marksMay.l1, if_pos (by omega), if_neg (by omega), if_pos (by omega), if_pos (by omega), hk, hw3, if_pos c1, if_neg c2, decide_eq_false c3, vesperref14_marksMay.j2, if_neg (by decide), decide_eq_false ha, if_neg (by decide), if_pos (by omega), if_pos (by omega), hw7, if_pos (by omega), if_pos (by omega), hk]
    congr 1
    cases (rd_T52 l1 ((m : Int) - 1)).f2 <;> cases mk.f2 <;> rfl
   obtain ⟨s, hs1, hs2⟩ := hsame
   cases s with
   | true =>
    refine ⟨false, 4, fun K hK => ?_⟩
    obtain ⟨K, rfl⟩ : ∃ j, K = j + 1 + 1 + 1 := ⟨K - 3, by omega⟩
    refine ⟨?_, ?_⟩
    ·rw [hs1, asm_marked.j2, if_pos rfl]
    ·rw [hs2, vesperref14_marksMay.j3, if_pos rfl]
   | false =>
    obtain ⟨r, F, hr⟩ := ih (e - q) (by omega) (a + q) (m + 1) (by omega) (by omega) (.inr (by omega))
    rw [decide_eq_false (show ¬ a + q = 0 by omega)] at hr
    cases hc : mk.f2 with
    | false =>
     refine ⟨r, F + 4, fun K hK => ?_⟩
     obtain ⟨K, rfl⟩ : ∃ j, K = j + 1 + 1 + 1 := ⟨K - 3, by omega⟩
     refine ⟨?_, ?_⟩
     ·rw [hs1, asm_marked.j2, if_neg (by decide), hc, if_neg (by decide), w1 m (by omega), hw4]
      exact (hr _ (by omega)).1
     rw [hs2, vesperref14_marksMay.j3, if_neg (by decide), if_pos (by omega), if_pos (by omega), hk, hc, if_neg (by decide), w1 m (by omega), hw6]
     exact (hr _ (by omega)).2
    | true =>
     have hseg : Bytes8 ((b.f1.take (a + q)).drop a) := fun x hx => h8 x (List.mem_of_mem_take (List.mem_of_mem_drop hx))
     have hsl : ((b.f1.take (a + q)).drop a).length ≤ 65536 := by rw [List.length_drop, List.length_take]; omega
     obtain ⟨t, ht⟩ := whole_f _ hseg (by omega)
     refine ⟨if t then r else false, F + 65560, fun K hK => ?_⟩
     obtain ⟨K, rfl⟩ : ∃ j, K = j + 1 + 1 + 1 := ⟨K - 3, by omega⟩
     refine ⟨?_, ?_⟩
     ·rw [hs1, asm_marked.j2, if_neg (by decide), hc, if_pos rfl, w1 m (by omega), hw4, if_pos (by omega), if_pos (by omega), if_pos (by omega), Int.toNat_natCast, Int.toNat_natCast, (ht _ (by omega)).1, Option.bind_some]
      cases t with
      | true => rw [if_pos rfl]; exact (hr _ (by omega)).1
      | false => rfl
     rw [hs2, vesperref14_marksMay.j3, if_neg (by decide), if_pos (by omega), if_pos (by omega), hk, hc, if_pos rfl, if_pos (by omega), if_pos (by omega), hb, hw5, hw4, if_pos (by omega), if_pos (by omega), if_pos (by omega), Int.toNat_natCast, Int.toNat_natCast, (ht _ (by omega)).2, Option.bind_some, w1 m (by omega), hw6]
     cases t with
     | true => rw [if_pos rfl]; exact (hr _ (by omega)).2
     | false => rfl
  refine ⟨false, 3, fun K hK => ?_⟩
  obtain ⟨K, rfl⟩ : ∃ j, K = j + 1 + 1 := ⟨K - 2, by omega⟩
  refine ⟨?_, ?_⟩
  ·rw [asm_marked.l1, if_pos (by omega), if_pos (by omega)]
  rw [vesperref14_marksMay.l1, if_pos (by omega), if_pos (by omega), vesperref14_marksMay.j2, if_pos rfl]
 obtain ⟨r, F, hr⟩ := ihP m hm
 refine ⟨r, F + 1, fun K hK => ?_⟩
 obtain ⟨K, rfl⟩ : ∃ j, K = j + 1 := ⟨K - 1, by omega⟩
 refine ⟨?_, ?_⟩
 ·rw [asm_marked.l1, if_neg (by omega), w1 i (by omega)]
  exact (hr K (by omega)).1
 rw [vesperref14_marksMay.l1, if_neg (by omega), w1 i (by omega)]
 exact (hr K (by omega)).2

theorem mark_l (l0 : List S42) (l1 : List S52) (l2 : List S47) (h0 : l0.length ≤ 10000000000) (h1 : l1.length ≤ 10000000000)
 (hv : ∀ b ∈ l0, 0 ≤ b.f0 ∧ b.f0 + (b.f1.length : Int) ≤ 65536 ∧ Bytes8 b.f1) : ∀ (d i m : Nat), i + d = l0.length → m ≤ l1.length →
 ∃ r F, ∀ K, F ≤ K → asm_marked.l0 K (m : Int) l0 (l0.length : Int) (i : Int) l0 l1 l2 = some r ∧ vesperref14_marksMay.l0 K (m : Int) (i : Int) l0 l1 l2 = some r := by
 intro d
 induction d with
 | zero =>
  intro i m hi hm
  refine ⟨(m : Int) == (l1.length : Int), 1, fun K hK => ?_⟩
  obtain ⟨K, rfl⟩ : ∃ j, K = j + 1 := ⟨K - 1, by omega⟩
  rw [asm_marked.l0, vesperref14_marksMay.l0, if_neg (by omega), if_neg (by omega)]
  exact ⟨rfl, rfl⟩
 | succ d ih =>
  intro i m hi hm
  have hlt : i < l0.length := by omega
  have hmem : rd_T42 l0 (i : Int) ∈ l0 := by
   unfold rd_T42
   rw [Int.toNat_natCast, List.getD_eq_getElem?_getD, List.getElem?_eq_getElem hlt, Option.getD_some]
   exact List.getElem_mem hlt
  obtain ⟨v0, v1, v2⟩ := hv _ hmem
  obtain ⟨r, F, hr⟩ := mark_in l0 l1 l2 h0 h1 i hlt _ rfl v0 v1 v2 (fun m' hm' => ih (i + 1) m' (by omega) hm') (rd_T42 l0 (i : Int)).f1.length 0 m (by omega) hm (.inl rfl)
  refine ⟨r, F + 1, fun K hK => ?_⟩
  obtain ⟨K, rfl⟩ : ∃ j, K = j + 1 := ⟨K - 1, by omega⟩
  obtain ⟨r1, r2⟩ := hr K (by omega)
  refine ⟨?_, ?_⟩
  ·rw [asm_marked.l0, if_pos (by omega), if_pos (by omega), if_pos (by omega)]
   exact r1
  rw [vesperref14_marksMay.l0, if_pos (by omega), if_pos (by omega), show wrap64 ((rd_T42 l0 (i : Int)).f0 + ((rd_T42 l0 (i : Int)).f1.length : Int)) = (rd_T42 l0 (i : Int)).f0 + ((rd_T42 l0 (i : Int)).f1.length : Int) from by unfold wrap64; omega]
  rw [decide_eq_true rfl] at r2
  simpa using r2
theorem mark_f (l0 : List S42) (l1 : List S52) (l2 : List S47) (h0 : l0.length ≤ 10000000000) (h1 : l1.length ≤ 10000000000)
 (hv : ∀ b ∈ l0, 0 ≤ b.f0 ∧ b.f0 + (b.f1.length : Int) ≤ 65536 ∧ Bytes8 b.f1) : ∃ r F, ∀ K, F ≤ K → asm_marked.f K l0 l1 l2 = some r ∧ vesperref14_marksMay.f K l0 l1 l2 = some r :=
 mark_l l0 l1 l2 h0 h1 hv l0.length 0 0 (by omega) (Nat.zero_le _)
end Go.Proofs.YtbffmfeflcdgbaaDoor.P
