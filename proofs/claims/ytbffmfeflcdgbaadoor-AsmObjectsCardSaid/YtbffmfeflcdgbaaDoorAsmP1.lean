/- The plain law of AsmObjects: that each is like itself; Find; how large. -/
import Derived.Test.YtbffmfeflcdgbaaDoorPObx14
import Derived.Test.YtbffmfeflcdgbaaDoorPObx15
import Derived.Test.YtbffmfeflcdgbaaDoorPObx16
import Derived.Test.YtbffmfeflcdgbaaDoorPObx3
set_option linter.unusedVariables false
set_option linter.unusedSimpArgs false
namespace Go.Proofs.YtbffmfeflcdgbaaDoor.P
open Go Go.RowKit
open Go.Proofs.YtbffmfeflcdgbaaDoorW.PrintWords Go.Proofs.YtbffmfeflcdgbaaDoor.POb

theorem w1 (k : Nat) (h : k ≤ 100000000000) : wrap64 ((k : Int) + 1) = ((k + 1 : Nat) : Int) := by unfold wrap64; omega

theorem same_l (l : List Int) (hl : l.length ≤ 10000000000) : ∀ (d k K : Nat), k + d = l.length → d + 1 ≤ K → vesperlaw14_same.l0 K l l (k : Int) = some true := by
 intro d
 induction d with
 | zero =>
  intro k K hk hK
  obtain ⟨K, rfl⟩ : ∃ j, K = j + 1 := ⟨K - 1, by omega⟩
  rw [vesperlaw14_same.l0, if_neg (by omega)]
 | succ d ih =>
  intro k K hk hK
  obtain ⟨K, rfl⟩ : ∃ j, K = j + 1 := ⟨K - 1, by omega⟩
  rw [vesperlaw14_same.l0, if_pos (by omega), if_pos (by omega), if_pos (by omega), if_pos rfl, w1 k (by omega)]
  exact ih (k + 1) K (by omega) (by omega)
theorem same_f (l : List Int) (hl : l.length ≤ 10000000000) (K : Nat) (hK : l.length + 1 ≤ K) : vesperlaw14_same.f K l l = some true := by
 unfold vesperlaw14_same.f
 rw [if_pos rfl]
 exact same_l l hl l.length 0 K (by omega) hK

theorem find_l (nm : ByteArray) (l0 : List S42) (l1 : List S52) (l2 : List S47) (hl : l2.length ≤ 10000000000) : ∀ (d k : Nat), k + d = l2.length → ∃ r, ∀ K, d + 1 ≤ K → asm_Find.l0 K nm l2 (l2.length : Int) (k : Int) = some r ∧ vesperref14_Find.l0 K nm (k : Int) l0 l1 l2 = some r := by
 intro d
 induction d with
 | zero =>
  intro k hk
  refine ⟨(0, false), fun K hK => ?_⟩
  obtain ⟨K, rfl⟩ : ∃ j, K = j + 1 := ⟨K - 1, by omega⟩
  rw [asm_Find.l0, vesperref14_Find.l0, if_neg (by omega), if_neg (by omega)]
  exact ⟨rfl, rfl⟩
 | succ d ih =>
  intro k hk
  by_cases h : ((rd_T47 l2 (k : Int)).f0).toList = nm.toList
  ·refine ⟨((rd_T47 l2 (k : Int)).f1, true), fun K hK => ?_⟩
   obtain ⟨K, rfl⟩ : ∃ j, K = j + 1 := ⟨K - 1, by omega⟩
   rw [asm_Find.l0, vesperref14_Find.l0, if_pos (by omega), if_pos (by omega), if_pos (by omega), if_pos h]
   rw [if_pos (by omega), if_pos (by omega), if_pos h]
   exact ⟨rfl, rfl⟩
  obtain ⟨r, hr⟩ := ih (k + 1) (by omega)
  refine ⟨r, fun K hK => ?_⟩
  obtain ⟨K, rfl⟩ : ∃ j, K = j + 1 := ⟨K - 1, by omega⟩
  rw [asm_Find.l0, vesperref14_Find.l0, if_pos (by omega), if_pos (by omega), if_pos (by omega), if_neg h, w1 k (by omega)]
  rw [if_pos (by omega), if_pos (by omega), if_neg h]
  exact hr K (by omega)
theorem find_f (nm : ByteArray) (l0 : List S42) (l1 : List S52) (l2 : List S47) (hl : l2.length ≤ 10000000000) : ∃ r, ∀ K, l2.length + 1 ≤ K → asm_Find.f K l0 l1 l2 nm = some r ∧ vesperref14_Find.f K l0 l1 l2 nm = some r := find_l nm l0 l1 l2 hl l2.length 0 (by omega)

def sumL : List S42 → Nat
 | [] => 0
 | x :: r => x.f1.length + sumL r
theorem large_l (l0 : List S42) (l1 : List S52) (l2 : List S47) (hn : l0.length ≤ 10000000000) (hb : ∀ x ∈ l0, x.f1.length ≤ 1000000000000000) : ∀ (d k : Nat) (n : Int), k + d = l0.length → 0 ≤ n → n ≤ 4611686018427387904 →
 ∃ r, (∀ K, d + 1 ≤ K → vesperlaw14_large.l0 K n (k : Int) l0 l1 l2 = some r) ∧ (r = false → n + (sumL (l0.drop k) : Int) ≤ 2147483647) := by
 intro d
 induction d with
 | zero =>
  intro k n hk h0 h1
  refine ⟨decide (n > 2147483647), fun K hK => ?_, fun h => ?_⟩
  ·obtain ⟨K, rfl⟩ : ∃ j, K = j + 1 := ⟨K - 1, by omega⟩
   rw [vesperlaw14_large.l0, if_neg (by omega)]
  have := of_decide_eq_false h
  rw [List.drop_eq_nil_of_le (by omega)]
  simp only [sumL]; omega
 | succ d ih =>
  intro k n hk h0 h1
  have hlt : k < l0.length := by omega
  have hdr : l0.drop k = rd_T42 l0 (k : Int) :: l0.drop (k + 1) := by
   unfold rd_T42
   rw [Int.toNat_natCast, List.getD_eq_getElem?_getD, List.getElem?_eq_getElem hlt, Option.getD_some]
   exact List.drop_eq_getElem_cons hlt
  have hm : rd_T42 l0 (k : Int) ∈ l0 := by
   unfold rd_T42
   rw [Int.toNat_natCast, List.getD_eq_getElem?_getD, List.getElem?_eq_getElem hlt, Option.getD_some]
   exact List.getElem_mem hlt
  have hbb := hb _ hm
  by_cases hbig : n ≤ 2147483647
  ·obtain ⟨r, hr, hs⟩ := ih (k + 1) (n + ((rd_T42 l0 (k : Int)).f1.length : Int)) (by omega) (by omega) (by omega)
   refine ⟨r, fun K hK => ?_, fun h => ?_⟩
   ·obtain ⟨K, rfl⟩ : ∃ j, K = j + 1 := ⟨K - 1, by omega⟩
    rw [vesperlaw14_large.l0, if_pos (by omega), if_pos hbig, if_pos (by omega), w1 k (by omega), show wrap64 (n + ((rd_T42 l0 (k : Int)).f1.length : Int)) = n + ((rd_T42 l0 (k : Int)).f1.length : Int) from by unfold wrap64; omega]
    exact hr K (by omega)
   have := hs h
   rw [hdr]
   simp only [sumL]; omega
  refine ⟨true, fun K hK => ?_, fun h => by cases h⟩
  obtain ⟨K, rfl⟩ : ∃ j, K = j + 1 := ⟨K - 1, by omega⟩
  rw [vesperlaw14_large.l0, if_pos (by omega), if_neg hbig]
  rw [decide_eq_true (by omega)]
theorem sum_mem : ∀ (l : List S42) (x : S42), x ∈ l → x.f1.length ≤ sumL l
 | y :: r, x, h => by
  rcases List.mem_cons.1 h with rfl | h
  ·simp only [sumL]; omega
  have := sum_mem r x h; simp only [sumL]; omega

theorem alike_2 (l0 : List S42) (l1 : List S52) (l2 : List S47) (hl : l2.length ≤ 10000000000) : ∀ (d k K : Nat), k + d = l2.length → d + 1 ≤ K → vesperlaw14_alike.l2 K (k : Int) l0 l1 l2 l0 l1 l2 = some true := by
 intro d
 induction d with
 | zero =>
  intro k K hk hK
  obtain ⟨K, rfl⟩ : ∃ j, K = j + 1 := ⟨K - 1, by omega⟩
  rw [vesperlaw14_alike.l2, if_neg (by omega)]
 | succ d ih =>
  intro k K hk hK
  obtain ⟨K, rfl⟩ : ∃ j, K = j + 1 := ⟨K - 1, by omega⟩
  rw [vesperlaw14_alike.l2, if_pos (by omega), if_pos (by omega), if_pos (by omega), if_neg (by simp), w1 k (by omega)]
  exact ih (k + 1) K (by omega) (by omega)
theorem alike_1 (l0 : List S42) (l1 : List S52) (l2 : List S47) (h1 : l1.length ≤ 10000000000) (h2 : l2.length ≤ 10000000000) : ∀ (d k K : Nat), k + d = l1.length → d + l2.length + 2 ≤ K → vesperlaw14_alike.l1 K (k : Int) l0 l1 l2 l0 l1 l2 = some true := by
 intro d
 induction d with
 | zero =>
  intro k K hk hK
  obtain ⟨K, rfl⟩ : ∃ j, K = j + 1 := ⟨K - 1, by omega⟩
  rw [vesperlaw14_alike.l1, if_neg (by omega)]
  exact alike_2 l0 l1 l2 h2 l2.length 0 K (by omega) (by omega)
 | succ d ih =>
  intro k K hk hK
  obtain ⟨K, rfl⟩ : ∃ j, K = j + 1 := ⟨K - 1, by omega⟩
  rw [vesperlaw14_alike.l1, if_pos (by omega), if_pos (by omega), if_pos (by omega), if_neg (by simp), w1 k (by omega)]
  exact ih (k + 1) K (by omega) (by omega)
theorem alike_0 (l0 : List S42) (l1 : List S52) (l2 : List S47) (M : Nat) (hM : ∀ x ∈ l0, x.f1.length ≤ M) (hM2 : M ≤ 10000000000) (h0 : l0.length ≤ 10000000000) (h1 : l1.length ≤ 10000000000) (h2 : l2.length ≤ 10000000000) : ∀ (d k K : Nat), k + d = l0.length → d + l1.length + l2.length + M + 3 ≤ K → vesperlaw14_alike.l0 K (k : Int) l0 l1 l2 l0 l1 l2 = some true := by
 intro d
 induction d with
 | zero =>
  intro k K hk hK
  obtain ⟨K, rfl⟩ : ∃ j, K = j + 1 := ⟨K - 1, by omega⟩
  rw [vesperlaw14_alike.l0, if_neg (by omega)]
  exact alike_1 l0 l1 l2 h1 h2 l1.length 0 K (by omega) (by omega)
 | succ d ih =>
  intro k K hk hK
  obtain ⟨K, rfl⟩ : ∃ j, K = j + 1 := ⟨K - 1, by omega⟩
  have hlt : k < l0.length := by omega
  have hm : rd_T42 l0 (k : Int) ∈ l0 := by
   unfold rd_T42
   rw [Int.toNat_natCast, List.getD_eq_getElem?_getD, List.getElem?_eq_getElem hlt, Option.getD_some]
   exact List.getElem_mem hlt
  have := hM _ hm
  rw [vesperlaw14_alike.l0, if_pos (by omega), if_pos (by omega), if_pos (by omega), if_pos rfl, same_f _ (by omega) K (by omega), w1 k (by omega)]
  rw [Option.bind_some, if_pos rfl]
  exact ih (k + 1) K (by omega) (by omega)
theorem alike_f (l0 : List S42) (l1 : List S52) (l2 : List S47) (M : Nat) (hM : ∀ x ∈ l0, x.f1.length ≤ M) (hM2 : M ≤ 10000000000) (h0 : l0.length ≤ 10000000000) (h1 : l1.length ≤ 10000000000) (h2 : l2.length ≤ 10000000000) (K : Nat) (hK : l0.length + l1.length + l2.length + M + 4 ≤ K) : vesperlaw14_alike.f K l0 l1 l2 l0 l1 l2 = some true := by
 obtain ⟨K, rfl⟩ : ∃ j, K = j + 1 := ⟨K - 1, by omega⟩
 unfold vesperlaw14_alike.f
 rw [if_pos rfl, if_pos rfl, vesperlaw14_alike.j0, if_neg (by simp)]
 exact alike_0 l0 l1 l2 M hM hM2 h0 h1 h2 l0.length 0 K (by omega) (by omega)
end Go.Proofs.YtbffmfeflcdgbaaDoor.P
