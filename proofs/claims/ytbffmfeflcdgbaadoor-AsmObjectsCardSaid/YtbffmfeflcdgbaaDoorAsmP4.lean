/- The plain law of AsmObjects: whole instructions. -/
import Derived.Test.YtbffmfeflcdgbaaDoorAsmP1
import Derived.Test.YtbffmfeflcdgbaaDoorPObx6
import Derived.Test.YtbffmfeflcdgbaaDoorPObx11
set_option linter.unusedVariables false
set_option linter.unusedSimpArgs false
namespace Go.Proofs.YtbffmfeflcdgbaaDoor.P
open Go Go.RowKit
open Go.Proofs.YtbffmfeflcdgbaaDoorW.PrintWords Go.Proofs.YtbffmfeflcdgbaaDoor.POb Go.Proofs.YtbffmfeflcdgbaaDoor.Code

theorem le_some {α : Type} {f : Nat → Option α} (hm : ∀ k, LeO (f k) (f (k + 1))) {k : Nat} {r : α} (h : f k = some r) : ∀ {K : Nat}, k ≤ K → f K = some r := by
 intro K hk
 induction hk with
 | refl => exact h
 | step _ ih => exact hm _ _ ih

def nl (op : Nat) : Nat := if formV op = 6 then 3 else if formV op = 4 ∨ formV op = 5 then 2 else 1
theorem tab_n : (List.range 256).all (fun op => bytesV op == (nl op : Int)) = true := by kernel_rfl
theorem tab_f : (List.range 256).all (fun op => vesperref02_FormOf.f 4 (op : Int) == some ((formV op : Nat) : Int)) = true := by kernel_rfl
theorem tab_b : (List.range 256).all (fun op => vesperref02_Bytes.f 2 ((formV op : Nat) : Int) == some (nl op : Int)) = true := by kernel_rfl
theorem tab_m : (List.range 256).all (fun op => (vesperref02_Name.f (op : Int)).isSome) = true := by kernel_rfl
theorem at_tab {f : Nat → Bool} (h : (List.range 256).all f = true) (op : Nat) (hop : op < 256) : f op = true := List.all_eq_true.1 h op (List.mem_range.2 hop)

/-- What both decoders tell: the length, or that bytes lack. -/
def dn (n op : Nat) : Int × Int := if n < nl op then (0, 22) else ((nl op : Nat), 0)
theorem dec_code (l : List Int) (h0 : 0 < l.length) (op : Nat) (hop : op < 256) (hr : rd l 0 = (op : Int)) (K : Nat) (hK : 1 ≤ K) : ∃ s a, code_Decode.f K l = some (s, a, (dn l.length op).1, (dn l.length op).2) := by
 obtain ⟨K, rfl⟩ : ∃ j, K = j + 1 := ⟨K - 1, by omega⟩
 have hn : bytesV op = (nl op : Int) := by simpa using at_tab tab_n op hop
 unfold code_Decode.f
 rw [if_neg (by omega), if_pos (by omega), hr]
 have hi : code_Info.f (op : Int) = some (nameOf op, (formV op : Int), (nl op : Int), cyclesV op) := by
  unfold code_Info.f
  rw [if_pos (by omega), if_pos (by omega), Int.toNat_natCast, hn]
 rw [hi, Option.bind_some]
 dsimp only
 unfold dn
 by_cases hl : l.length < nl op
 ·rw [if_pos (by omega), if_pos hl]; exact ⟨_, _, rfl⟩
 rw [if_neg (by omega), if_neg hl]
 have hnl : nl op ≤ l.length := by omega
 by_cases f2 : ((formV op : Nat) : Int) = 2
 ·rw [if_pos f2]; exact ⟨_, _, rfl⟩
 by_cases f3 : ((formV op : Nat) : Int) = 3
 ·rw [if_neg f2, if_pos f3]; exact ⟨_, _, rfl⟩
 rw [if_neg f2, if_neg f3]
 by_cases f4 : ((formV op : Nat) : Int) = 4
 ·have e : nl op = 2 := by unfold nl; rw [if_neg (by omega), if_pos (by omega)]
  rw [if_pos f4, code_Decode.j0, if_pos (by simpa using f4), if_pos (by omega)]; exact ⟨_, _, rfl⟩
 rw [if_neg f4, code_Decode.j0]
 by_cases f5 : ((formV op : Nat) : Int) = 5
 ·have e : nl op = 2 := by unfold nl; rw [if_neg (by omega), if_pos (by omega)]
  rw [if_pos (by simpa using f5), if_pos (by omega)]; exact ⟨_, _, rfl⟩
 rw [if_neg (by simpa using f5)]
 by_cases f6 : ((formV op : Nat) : Int) = 6
 ·have e : nl op = 3 := by unfold nl; rw [if_pos (by omega)]
  rw [if_pos f6, if_pos (by omega), if_pos (by omega)]
  unfold bits_Word.f
  exact ⟨_, _, rfl⟩
 rw [if_neg f6]; exact ⟨_, _, rfl⟩
theorem dec_ref (l : List Int) (h0 : 0 < l.length) (op : Nat) (hop : op < 256) (hr : rd l 0 = (op : Int)) (K : Nat) (hK : 4 ≤ K) : ∃ s a, vesperref02_Decode.f K l = some (s, a, (dn l.length op).1, (dn l.length op).2) := by
 have hf : vesperref02_FormOf.f K (op : Int) = some ((formV op : Nat) : Int) := le_some (f := fun k => vesperref02_FormOf.f k (op : Int)) (fun k => vesperref02_FormOf.mono _ k) (by simpa using at_tab tab_f op hop) hK
 have hb : vesperref02_Bytes.f K ((formV op : Nat) : Int) = some (nl op : Int) := le_some (f := fun k => vesperref02_Bytes.f k ((formV op : Nat) : Int)) (fun k => vesperref02_Bytes.mono _ k) (by simpa using at_tab tab_b op hop) (by omega)
 obtain ⟨s, hs⟩ := Option.isSome_iff_exists.1 (at_tab tab_m op hop)
 obtain ⟨K, rfl⟩ : ∃ j, K = j + 1 := ⟨K - 1, by omega⟩
 unfold vesperref02_Decode.f
 rw [if_neg (by omega), if_pos (by omega), hr, hf, Option.bind_some, hb, Option.bind_some, hs]
 unfold dn
 by_cases hl : l.length < nl op
 ·rw [if_pos (by omega), if_pos hl]; exact ⟨_, _, rfl⟩
 rw [if_neg (by omega), if_neg hl]
 have hnl : nl op ≤ l.length := by omega
 by_cases f2 : ((formV op : Nat) : Int) = 2
 ·rw [if_pos f2]; exact ⟨_, _, rfl⟩
 by_cases f3 : ((formV op : Nat) : Int) = 3
 ·rw [if_neg f2, if_pos f3]; exact ⟨_, _, rfl⟩
 rw [if_neg f2, if_neg f3]
 by_cases f4 : ((formV op : Nat) : Int) = 4
 ·have e : nl op = 2 := by unfold nl; rw [if_neg (by omega), if_pos (by omega)]
  rw [if_pos f4, vesperref02_Decode.j0, if_pos (by simpa using f4), if_pos (by omega), hs]; exact ⟨_, _, rfl⟩
 rw [if_neg f4, vesperref02_Decode.j0]
 by_cases f5 : ((formV op : Nat) : Int) = 5
 ·have e : nl op = 2 := by unfold nl; rw [if_neg (by omega), if_pos (by omega)]
  rw [if_pos (by simpa using f5), if_pos (by omega), hs]; exact ⟨_, _, rfl⟩
 rw [if_neg (by simpa using f5)]
 by_cases f6 : ((formV op : Nat) : Int) = 6
 ·have e : nl op = 3 := by unfold nl; rw [if_pos (by omega)]
  rw [if_pos f6, if_pos (by omega), if_pos (by omega), hs]; exact ⟨_, _, rfl⟩
 rw [if_neg f6, hs]; exact ⟨_, _, rfl⟩
theorem nl_pos (op : Nat) : 0 < nl op := by unfold nl; split <;> (try split) <;> omega

def Bytes8 (l : List Int) : Prop := ∀ x ∈ l, 0 ≤ x ∧ x < 256
theorem whole_l (x0 : List Int) (hx : Bytes8 x0) (hl : x0.length ≤ 10000000000) : ∀ (m a : Nat), a ≤ x0.length → x0.length - a ≤ m → ∃ r, ∀ K, m + 10 ≤ K → asm_whole.l0 K (x0.drop a) = some r ∧ vesperref14_whole.l0 K x0 (a : Int) = some r := by
 intro m
 induction m with
 | zero =>
  intro a ha hm
  refine ⟨true, fun K hK => ?_⟩
  obtain ⟨K, rfl⟩ : ∃ j, K = j + 1 := ⟨K - 1, by omega⟩
  rw [asm_whole.l0, vesperref14_whole.l0, if_neg (by rw [List.length_drop]; omega), if_neg (by omega)]
  exact ⟨rfl, rfl⟩
 | succ m ih =>
  intro a ha hm
  by_cases hlt : a < x0.length
  ·have h0 : 0 < (x0.drop a).length := by rw [List.length_drop]; omega
   have hdr : x0.drop a = x0[a] :: x0.drop (a + 1) := List.drop_eq_getElem_cons hlt
   obtain ⟨hb0, hb1⟩ := hx _ (List.getElem_mem hlt)
   obtain ⟨op, hop⟩ := Int.eq_ofNat_of_zero_le hb0
   have hop2 : op < 256 := by omega
   have hrd : rd (x0.drop a) 0 = (op : Int) := by rw [hdr, ← hop]; rfl
   have hlen : (x0.drop a).length = x0.length - a := List.length_drop
   by_cases hs : (x0.drop a).length < nl op
   ·refine ⟨false, fun K hK => ?_⟩
    obtain ⟨K, rfl⟩ : ∃ j, K = j + 1 := ⟨K - 1, by omega⟩
    obtain ⟨s1, a1, d1⟩ := dec_code (x0.drop a) h0 op hop2 hrd K (by omega)
    obtain ⟨s2, a2, d2⟩ := dec_ref (x0.drop a) h0 op hop2 hrd K (by omega)
    refine ⟨?_, ?_⟩
    ·rw [asm_whole.l0, if_pos (by omega), d1, Option.bind_some]
     unfold dn
     rw [if_pos hs]
     dsimp only
     rw [if_neg (by decide)]
    rw [vesperref14_whole.l0, if_pos (by omega), if_pos (by omega), if_pos (by omega), Int.toNat_natCast, d2, Option.bind_some]
    unfold dn
    rw [if_pos hs]
    dsimp only
    rw [if_neg (by decide)]
   have hp := nl_pos op
   obtain ⟨r, hr⟩ := ih (a + nl op) (by omega) (by omega)
   refine ⟨r, fun K hK => ?_⟩
   obtain ⟨K, rfl⟩ : ∃ j, K = j + 1 := ⟨K - 1, by omega⟩
   obtain ⟨s1, a1, d1⟩ := dec_code (x0.drop a) h0 op hop2 hrd K (by omega)
   obtain ⟨s2, a2, d2⟩ := dec_ref (x0.drop a) h0 op hop2 hrd K (by omega)
   obtain ⟨r1, r2⟩ := hr K (by omega)
   refine ⟨?_, ?_⟩
   ·rw [asm_whole.l0, if_pos (by omega), d1, Option.bind_some]
    unfold dn
    rw [if_neg hs]
    dsimp only
    rw [if_pos rfl, if_pos (by omega), if_pos (by omega), Int.toNat_natCast, List.drop_drop]
    exact r1
   rw [vesperref14_whole.l0, if_pos (by omega), if_pos (by omega), if_pos (by omega), Int.toNat_natCast, d2, Option.bind_some]
   unfold dn
   rw [if_neg hs]
   dsimp only
   rw [if_pos rfl, show wrap64 ((a : Int) + (nl op : Int)) = ((a + nl op : Nat) : Int) from by unfold wrap64; omega]
   exact r2
  refine ⟨true, fun K hK => ?_⟩
  obtain ⟨K, rfl⟩ : ∃ j, K = j + 1 := ⟨K - 1, by omega⟩
  rw [asm_whole.l0, vesperref14_whole.l0, if_neg (by rw [List.length_drop]; omega), if_neg (by omega)]
  exact ⟨rfl, rfl⟩
theorem whole_f (x0 : List Int) (hx : Bytes8 x0) (hl : x0.length ≤ 10000000000) : ∃ r, ∀ K, x0.length + 10 ≤ K → asm_whole.f K x0 = some r ∧ vesperref14_whole.f K x0 = some r := by
 obtain ⟨r, hr⟩ := whole_l x0 hx hl x0.length 0 (Nat.zero_le _) (by omega)
 refine ⟨r, fun K hK => ?_⟩
 have := hr K hK
 rwa [List.drop_zero] at this
end Go.Proofs.YtbffmfeflcdgbaaDoor.P
