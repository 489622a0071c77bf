/- Plain laws: the instructions found by name, what an item may be, and its size: the package's answers are the document's. -/
import Derived.Test.YtjedbamcjgabpaaDoorPSoSourceSize
import Derived.Test.YtjedbamcjgabpaaDoorPSoVesperref13Size
set_option linter.unusedVariables false
set_option linter.unusedSimpArgs false
namespace Go.Proofs.YtjedbamcjgabpaaDoor.PSo
open Go Go.RowKit
open Go.Proofs.YtjedbamcjgabpaaDoorW.PrintWords
open Go.Proofs.YtjedbamcjgabpaaDoor.Src
set_option maxRecDepth 1000000
theorem all256 {p : Nat → Bool} (h : (List.range 256).all p = true) (n : Nat) (hn : n < 256) : p n = true := by
 exact List.all_eq_true.1 h n (List.mem_range.2 hn)
theorem names_eq (op : Nat) (h : op < 256) : code_name.f (op : Int) = vesperref02_Name.f (op : Int) := by
 have := all256 (p := fun n => decide (code_name.f (n : Int) = vesperref02_Name.f (n : Int))) (by decide +kernel) op h
 simpa using this
theorem infos_eq (op : Nat) (h : op < 256) : code_Info.f (op : Int) = vesperref02_Info.f 1000 (op : Int) := by
 have := all256 (p := fun n => decide (code_Info.f (n : Int) = vesperref02_Info.f 1000 (n : Int))) (by decide +kernel) op h
 simpa using this
theorem first_loop (s : ByteArray) : ∀ (k x : Nat), x ≤ 256 → 257 ≤ k + x → ∃ v : Int, code_first.l0 k s (x : Int) = some v ∧ vesperref02_First.l0 k s (x : Int) = some v ∧ (v = -1 ∨ ∃ op : Nat, v = (op : Int) ∧ op < 256 ∧ code_name.f (op : Int) = some s)
 | 0, x, hx, h => by omega
 | k + 1, x, hx, h => by
  unfold code_first.l0 vesperref02_First.l0
  by_cases hl : (x : Int) < 256
  ·have hm : (x : Int) % 256 = (x : Int) := by omega
   rw [if_pos hl, if_pos hl, hm, ← names_eq x (by omega)]
   have hne : code_name.f (x : Int) = some (nameOf x) := by
    unfold code_name.f
    rw [if_pos (by omega), if_pos hl]; rfl
   rw [hne, Option.bind_some, Option.bind_some]
   by_cases he : (nameOf x).toList = s.toList
   ·have he2 : nameOf x = s := by
     rw [Lib.toList_data, Lib.toList_data] at he
     rw [← Lib.mk_data (nameOf x), ← Lib.mk_data s, he]
    rw [if_pos he, if_pos he]
    exact ⟨x, rfl, rfl, Or.inr ⟨x, rfl, by omega, by rw [hne, he2]⟩⟩
   ·rw [if_neg he, if_neg he]
    have hw : wrap64 ((x : Int) + 1) = ((x + 1 : Nat) : Int) := by unfold wrap64; omega
    rw [hw]
    exact first_loop s k (x + 1) (by omega) (by omega)
  ·rw [if_neg hl, if_neg hl]
   exact ⟨-1, rfl, rfl, Or.inl rfl⟩
theorem first_eq (s : ByteArray) : ∃ v : Int, code_first.f 1000 s = some v ∧ vesperref02_First.f 1000 s = some v ∧ (v = -1 ∨ ∃ op : Nat, v = (op : Int) ∧ op < 256 ∧ code_name.f (op : Int) = some s) := first_loop s 1000 0 (by omega) (by omega)
theorem find_eq (s : ByteArray) : code_Find.f 1000 s = vesperref02_Find.f 1000 s := by
 obtain ⟨v, h1, h2, h⟩ := first_eq s
 unfold code_Find.f vesperref02_Find.f
 rw [h1, h2, Option.bind_some, Option.bind_some]
 rcases h with rfl | ⟨op, rfl, ho, -⟩
 ·rfl
 ·rw [if_neg (by omega), if_neg (by omega), show (op : Int) % 256 = op by omega, infos_eq op ho]
def loV (op : Nat) : Int := if formV op = 2 then (if op < 16 then 1 else 0) else if formV op = 3 then 1 else 0
def hiV (op : Nat) : Int := if formV op = 2 then 15 else if formV op = 3 then 7 else if formV op = 4 then 255 else if formV op = 5 then 255 else if formV op = 6 then 65535 else 0
theorem enc1 (k : Nat) (x4 x5 lo hi arg : Int) (nm : ByteArray) (h5 : x5 = 1 ∨ x5 = 2 ∨ x5 = 3 ∨ x5 = 4 ∨ x5 = 5 ∨ x5 = 6) : ∃ q, code_Encode.j1 (k + 4) x4 x5 lo hi nm arg = some q ∧ (q.2 = 0 ↔ lo ≤ arg ∧ arg ≤ hi) := by
 have j3 : ∀ b : Bool, ∃ q, code_Encode.j3 (k + 2) x4 x5 b nm arg = some q ∧ q.2 = 0 := by
  intro b
  unfold code_Encode.j3
  cases b
  ·simp only [Bool.false_eq_true, if_false]
   have j4 : ∀ b : Bool, ∃ q, code_Encode.j4 (k + 1) x4 x5 b nm arg = some q ∧ q.2 = 0 := by
    intro b
    unfold code_Encode.j4
    cases b
    ·simp only [Bool.false_eq_true, if_false]
     split
     ·unfold bits_High.f bits_Low.f
      exact ⟨_, rfl, rfl⟩
     ·exact ⟨_, rfl, rfl⟩
    ·exact ⟨_, rfl, rfl⟩
   split
   ·exact j4 _
   ·exact j4 _
  ·exact ⟨_, rfl, rfl⟩
 have e1 : code_Encode.j1 (k + 4) x4 x5 lo hi nm arg = if arg < lo then code_Encode.j2 (k + 3) x4 x5 true nm arg else code_Encode.j2 (k + 3) x4 x5 (decide (arg > hi)) nm arg := rfl
 have e2 : ∀ b : Bool, code_Encode.j2 (k + 3) x4 x5 b nm arg = if b = true then (some (([] : List Int), 21)) else (if x5 = 2 then (code_Encode.j3 (k + 2) x4 x5 (x5 == 2) nm arg) else (code_Encode.j3 (k + 2) x4 x5 (x5 == 3) nm arg)) := fun _ => rfl
 rw [e1]
 by_cases h1 : arg < lo
 ·rw [if_pos h1, e2, if_pos rfl]
  exact ⟨_, rfl, by simp; omega⟩
 ·rw [if_neg h1, e2]
  by_cases h2 : arg > hi
  ·rw [decide_eq_true h2]
   exact ⟨_, rfl, by simp; omega⟩
  ·rw [decide_eq_false h2, if_neg Bool.false_ne_true]
   have hj : ∃ q, (if x5 = 2 then code_Encode.j3 (k + 2) x4 x5 (x5 == 2) nm arg else code_Encode.j3 (k + 2) x4 x5 (x5 == 3) nm arg) = some q ∧ q.2 = 0 := by
    split
    ·exact j3 _
    ·exact j3 _
   obtain ⟨q, hq, h0⟩ := hj
   exact ⟨q, hq, by simp [h0]; omega⟩
theorem small_is (c : UInt8) : smallL.contains c = (decide (97 ≤ c.toNat) && decide (c.toNat ≤ 122)) := by
 have := all256 (p := fun n => smallL.contains (UInt8.ofNat n) == (decide (97 ≤ n) && decide (n ≤ 122))) (by decide +kernel) c.toNat c.toNat_lt
 simp only [UInt8.ofNat_toNat, beq_iff_eq] at this
 exact this
theorem others_is (c : UInt8) : othersL.contains c = ((decide (97 ≤ c.toNat) && decide (c.toNat ≤ 122)) || (decide (48 ≤ c.toNat) && decide (c.toNat ≤ 57)) || decide (c.toNat = 45)) := by
 have := all256 (p := fun n => othersL.contains (UInt8.ofNat n) == ((decide (97 ≤ n) && decide (n ≤ 122)) || (decide (48 ≤ n) && decide (n ≤ 57)) || decide (n = 45))) (by decide +kernel) c.toNat c.toNat_lt
 simp only [UInt8.ofNat_toNat, beq_iff_eq] at this
 exact this
theorem size_len (s : ByteArray) : s.size = s.data.toList.length := (Array.length_toList).symm
theorem bt_get (s : ByteArray) (i : Nat) (h : i < s.data.toList.length) : bt s (i : Int) = ((s.data.toList[i]).toNat : Int) := by
 have h' : ((i : Int).toNat) < s.size := by rw [size_len]; simpa using h
 rw [← bt_at s (i : Int) h']
 rfl
theorem isname_loop (s : ByteArray) (hs : s.data.toList.length ≤ 16) : ∀ (k i : Nat), i ≤ s.data.toList.length → 20 ≤ k + i → vesperref13_IsName.l0 k s (i : Int) = some ((s.data.toList.drop i).all othersL.contains)
 | 0, i, hi, h => by omega
 | k + 1, i, hi, h => by
  have hz : (s.size : Int) = (s.data.toList.length : Int) := congrArg Nat.cast (size_len s)
  unfold vesperref13_IsName.l0
  rw [hz]
  by_cases hl : i < s.data.toList.length
  ·have hw : wrap64 ((i : Int) + 1) = ((i + 1 : Nat) : Int) := by unfold wrap64; omega
   rw [if_pos (by omega), if_pos (by omega), bt_get s i hl, hw, isname_loop s hs k (i + 1) (by omega) (by omega), List.drop_eq_getElem_cons hl, List.all_cons, others_is]
   generalize (s.data.toList[i]).toNat = c
   generalize (List.drop (i + 1) s.data.toList).all othersL.contains = q
   by_cases a1 : (c : Int) < 97 <;> by_cases a2 : (c : Int) < 48 <;> by_cases a3 : (c : Int) = 45 <;> by_cases a4 : (c : Int) > 57 <;> by_cases a5 : (c : Int) > 122 <;> first | omega | (simp only [a1, a2, a3, a4, a5, if_true, if_false]; congr 1; cases q <;> simp <;> omega)
  ·rw [if_neg (by omega), List.drop_eq_nil_of_le (by omega)]
   rfl
theorem isname_eq (s : ByteArray) : vesperref13_IsName.f 1000 s = some (nameB s) := by
 unfold vesperref13_IsName.f
 have ht : ∀ b : Bool, vesperref13_IsName.j0 1000 s b = if b = true then some false else vesperref13_IsName.l0 999 s 0 := fun _ => rfl
 have hz : (s.size : Int) = (s.data.toList.length : Int) := congrArg Nat.cast (size_len s)
 rw [Lib.toList_data, ht, ht, hz]
 unfold nameB
 cases hd : s.data.toList with
 | nil => simp
 | cons c r =>
  rw [if_neg (by simp)]
  by_cases h16 : (((c :: r).length : Nat) : Int) > 16
  ·rw [if_pos h16]
   have : ¬ r.length < 16 := by simp at h16; omega
   simp [this]
  ·rw [if_neg h16, if_pos (by simp)]
   have h16' : r.length < 16 := by simp at h16; omega
   have hb := bt_get s 0 (by rw [hd]; simp)
   have hb0 : bt s 0 = (c.toNat : Int) := by
    rw [show (0 : Int) = ((0 : Nat) : Int) from rfl, hb]
    simp [hd]
   have hl := isname_loop s (by rw [hd]; simp; omega) 999 0 (by omega) (by omega)
   rw [hd] at hl
   simp only [List.drop_zero, List.all_cons] at hl
   replace hl : vesperref13_IsName.l0 999 s 0 = some (othersL.contains c && r.all othersL.contains) := hl
   show _ = some (decide (r.length < 16) && smallL.contains c && r.all othersL.contains)
   rw [hb0, hl, small_is, others_is]
   by_cases a1 : (c.toNat : Int) < 97
   ·have : ¬ 97 ≤ c.toNat := by omega
    simp [a1, this]
   ·by_cases a2 : (c.toNat : Int) > 122
    ·have : ¬ c.toNat ≤ 122 := by omega
     simp [a1, a2, this]
    ·have b1 : 97 ≤ c.toNat := by omega
     have b2 : c.toNat ≤ 122 := by omega
     simp [a1, a2, b1, b2, h16']
theorem first_eq' (s : ByteArray) : ∃ v : Int, code_first.f 999 s = some v ∧ vesperref02_First.f 999 s = some v ∧ (v = -1 ∨ ∃ op : Nat, v = (op : Int) ∧ op < 256 ∧ code_name.f (op : Int) = some s) := first_loop s 999 0 (by omega) (by omega)
theorem form_eq' (op : Nat) (h : op < 256) : code_form.f 999 (op : Int) = some (formV op : Int) ∧ (formV op = 1 ∨ formV op = 2 ∨ formV op = 3 ∨ formV op = 4 ∨ formV op = 5 ∨ formV op = 6) ∧ vesperref13_most.f 999 (nameOf op) (formV op : Int) = some (loV op, hiV op, true) := by
 have := all256 (p := fun n => decide (code_form.f 999 (n : Int) = some (formV n : Int) ∧ (formV n = 1 ∨ formV n = 2 ∨ formV n = 3 ∨ formV n = 4 ∨ formV n = 5 ∨ formV n = 6) ∧ vesperref13_most.f 999 (nameOf n) (formV n : Int) = some (loV n, hiV n, true))) (by decide +kernel) op h
 simpa using this
theorem enc_eq' (s : ByteArray) (arg : Int) (op : Nat) (ho : op < 256) (hf : code_first.f 999 s = some (op : Int)) : ∃ q, code_Encode.f 999 s arg = some q ∧ (q.2 = 0 ↔ loV op ≤ arg ∧ arg ≤ hiV op) := by
 obtain ⟨h1, h2, -⟩ := form_eq' op ho
 unfold code_Encode.f
 rw [hf, Option.bind_some, if_neg (by omega), show (op : Int) % 256 = op by omega, h1, Option.bind_some]
 unfold loV hiV
 rcases h2 with e | e | e | e | e | e <;> rw [e]
 ·exact enc1 994 (op : Int) 1 0 0 arg s (by omega)
 ·by_cases h16 : op < 16
  ·have h16' : (op : Int) < 16 := by omega
   rw [if_pos (by rfl), if_pos h16', if_pos (by rfl), if_pos h16, if_pos (by rfl)]
   exact enc1 995 0 2 1 15 arg s (by omega)
  ·have h16' : ¬ (op : Int) < 16 := by omega
   rw [if_pos (by rfl), if_neg h16', if_pos (by rfl), if_neg h16, if_pos (by rfl)]
   exact enc1 995 (op : Int) 2 0 15 arg s (by omega)
 ·exact enc1 995 (wrap64 ((op : Int) - 1)) 3 1 7 arg s (by omega)
 ·exact enc1 994 (op : Int) 4 0 255 arg s (by omega)
 ·exact enc1 994 (op : Int) 5 0 255 arg s (by omega)
 ·exact enc1 994 (op : Int) 6 0 65535 arg s (by omega)
theorem isname_eq' (s : ByteArray) : vesperref13_IsName.f 999 s = some (nameB s) := by
 unfold vesperref13_IsName.f
 have ht : ∀ b : Bool, vesperref13_IsName.j0 999 s b = if b = true then some false else vesperref13_IsName.l0 998 s 0 := fun _ => rfl
 have hz : (s.size : Int) = (s.data.toList.length : Int) := congrArg Nat.cast (size_len s)
 rw [Lib.toList_data, ht, ht, hz]
 unfold nameB
 cases hd : s.data.toList with
 | nil => simp
 | cons c r =>
  rw [if_neg (by simp)]
  by_cases h16 : (((c :: r).length : Nat) : Int) > 16
  ·rw [if_pos h16]
   have : ¬ r.length < 16 := by simp at h16; omega
   simp [this]
  ·rw [if_neg h16, if_pos (by simp)]
   have h16' : r.length < 16 := by simp at h16; omega
   have hb := bt_get s 0 (by rw [hd]; simp)
   have hb0 : bt s 0 = (c.toNat : Int) := by
    rw [show (0 : Int) = ((0 : Nat) : Int) from rfl, hb]
    simp [hd]
   have hl := isname_loop s (by rw [hd]; simp; omega) 998 0 (by omega) (by omega)
   rw [hd] at hl
   simp only [List.drop_zero, List.all_cons] at hl
   replace hl : vesperref13_IsName.l0 998 s 0 = some (othersL.contains c && r.all othersL.contains) := hl
   show _ = some (decide (r.length < 16) && smallL.contains c && r.all othersL.contains)
   rw [hb0, hl, small_is, others_is]
   by_cases a1 : (c.toNat : Int) < 97
   ·have : ¬ 97 ≤ c.toNat := by omega
    simp [a1, this]
   ·by_cases a2 : (c.toNat : Int) > 122
    ·have : ¬ c.toNat ≤ 122 := by omega
     simp [a1, a2, this]
    ·have b1 : 97 ≤ c.toNat := by omega
     have b2 : c.toNat ≤ 122 := by omega
     simp [a1, a2, b1, b2, h16']
theorem ref_j0 (k : Nat) (b : Bool) (a0 : Int) (nm : ByteArray) (arg : Int) (lab : ByteArray) (part : Int) (by_ : List Int) (y0 : ByteArray) (y1 y2 y3 : Int) : vesperref13_code.j0 (k + 1) b a0 nm arg lab part by_ y0 y1 y2 y3 = if b = true then (some false) else (if part = 0 then ((vesperref13_most.f k nm y1).bind fun bt292 => (if lab.toList = ([] : List UInt8) then (if arg ≥ bt292.1 then (some (decide (arg ≤ bt292.2.1))) else (some false)) else (some false))) else ((vesperref13_IsName.f k lab).bind fun t295 => (if t295 = true then (vesperref13_code.j1 k (arg != 0) a0 nm arg lab part by_ y0 y1 y2 y3) else (vesperref13_code.j1 k true a0 nm arg lab part by_ y0 y1 y2 y3)))) := rfl
theorem src_j0 (k : Nat) (b : Bool) (a0 : Int) (nm : ByteArray) (arg : Int) (lab : ByteArray) (part : Int) (by_ : List Int) (y0 : ByteArray) (y1 y2 y3 : Int) : source_instruction.j0 (k + 1) b a0 nm arg lab part by_ y0 y1 y2 y3 = if b = true then (some false) else (if part = 0 then ((code_Encode.f k nm arg).bind fun bt133 => (if bt133.2 = 0 then (some (lab.toList == ([] : List UInt8))) else (some false))) else (if arg = 0 then ((source_name.f lab).bind fun t137 => (source_instruction.j1 k (!t137) a0 nm arg lab part by_ y0 y1 y2 y3)) else (source_instruction.j1 k true a0 nm arg lab part by_ y0 y1 y2 y3))) := rfl
theorem j1_eq (k : Nat) (b : Bool) (a0 : Int) (nm : ByteArray) (arg : Int) (lab : ByteArray) (part : Int) (by_ : List Int) (y0 : ByteArray) (y1 y2 y3 : Int) : ∃ r, source_instruction.j1 (k + 1) b a0 nm arg lab part by_ y0 y1 y2 y3 = some r ∧ vesperref13_code.j1 (k + 1) b a0 nm arg lab part by_ y0 y1 y2 y3 = some r := by
 have e1 : source_instruction.j1 (k + 1) b a0 nm arg lab part by_ y0 y1 y2 y3 = vesperref13_code.j1 (k + 1) b a0 nm arg lab part by_ y0 y1 y2 y3 := rfl
 have h : ∃ r, (if b = true then (some false) else (if y1 = 4 then (if part = 2 then (some true) else (some (part == 3))) else (if y1 = 5 then (some (part == 1)) else (if y1 = 6 then (some (part == 1)) else (some false))))) = some r := by
  repeat' split
  all_goals exact ⟨_, rfl⟩
 obtain ⟨r, h⟩ := h
 exact ⟨r, h, h⟩
theorem instr_eq (a0 : Int) (nm : ByteArray) (arg : Int) (lab : ByteArray) (part : Int) (by_ : List Int) : ∃ r, source_instruction.f 1000 a0 nm arg lab part by_ = some r ∧ vesperref13_code.f 1000 a0 nm arg lab part by_ = some r := by
 unfold source_instruction.f vesperref13_code.f
 rw [← find_eq]
 obtain ⟨v, h1, -, h⟩ := first_eq nm
 have hF : ∀ (K : Nat), code_Find.f 1000 nm = (code_first.f 1000 nm).bind fun t104 => (if t104 < 0 then (some ((⟨#[]⟩ : ByteArray), 0, 0, 0, false)) else ((code_Info.f ((t104) % 256)).bind fun bt105 => (some (bt105.1, bt105.2.1, bt105.2.2.1, bt105.2.2.2, true)))) := fun _ => rfl
 rw [hF 0, h1, Option.bind_some]
 rcases h with rfl | ⟨op, rfl, ho, hn⟩
 ·exact ⟨false, rfl, rfl⟩
 ·have hi : code_Info.f (op : Int) = some (nameOf op, (formV op : Int), bytesV op, cyclesV op) := by
   unfold code_Info.f
   rw [if_pos (by omega), if_pos (by omega)]
   rfl
  have hnm : nameOf op = nm := by
   unfold code_name.f at hn
   rw [if_pos (by omega), if_pos (by omega)] at hn
   exact Option.some.inj hn
  rw [if_neg (by omega), show (op : Int) % 256 = op by omega, hi, Option.bind_some, Option.bind_some, Option.bind_some]
  dsimp only
  rw [if_pos rfl, if_pos rfl, ref_j0, src_j0]
  obtain ⟨v', f1, -, -⟩ := first_eq' nm
  have hv : v' = (op : Int) := by
   have hle := code_first.mono nm 999 _ f1
   rw [h1] at hle
   exact (Option.some.inj hle).symm
  rw [hv] at f1
  by_cases hl : by_.length = 0
  ·have b1 : decide ((by_.length : Int) > 0) = false := decide_eq_false (by omega)
   have b2 : ((by_.length : Int) != 0) = false := by simp [hl]
   rw [b1, b2, if_neg Bool.false_ne_true, if_neg Bool.false_ne_true]
   by_cases hp : part = 0
   ·rw [if_pos hp, if_pos hp]
    obtain ⟨q, hq, hqe⟩ := enc_eq' nm arg op ho f1
    obtain ⟨-, -, hm⟩ := form_eq' op ho
    rw [hnm] at hm
    rw [hq, hm, Option.bind_some, Option.bind_some]
    by_cases hlab : lab.toList = []
    ·rw [if_pos hlab]
     by_cases h0 : q.2 = 0
     ·obtain ⟨g1, g2⟩ := hqe.1 h0
      rw [if_pos h0, if_pos g1, hlab]
      exact ⟨true, rfl, congrArg some (decide_eq_true g2)⟩
     ·rw [if_neg h0]
      refine ⟨false, rfl, ?_⟩
      by_cases g1 : arg ≥ loV op
      ·rw [if_pos g1]
       exact congrArg some (decide_eq_false (fun g2 => h0 (hqe.2 ⟨g1, g2⟩)))
      ·rw [if_neg g1]
    ·rw [if_neg hlab]
     refine ⟨false, ?_, rfl⟩
     split
     ·exact congrArg some (beq_eq_false_iff_ne.2 hlab)
     ·rfl
   ·rw [if_neg hp, if_neg hp, isname_eq', Option.bind_some]
    unfold source_name.f
    rw [Option.bind_some]
    cases hnb : nameB lab with
    | true =>
     rw [if_pos rfl]
     by_cases ha : arg = 0
     ·rw [if_pos ha]
      have : (arg != 0) = false := by simp [ha]
      rw [this]
      exact j1_eq 998 false a0 nm arg lab part by_ _ _ _ _
     ·rw [if_neg ha]
      have : (arg != 0) = true := by simp [ha]
      rw [this]
      exact j1_eq 998 true a0 nm arg lab part by_ _ _ _ _
    | false =>
     rw [if_neg Bool.false_ne_true]
     split
     ·exact j1_eq 998 true a0 nm arg lab part by_ _ _ _ _
     ·exact j1_eq 998 true a0 nm arg lab part by_ _ _ _ _
  ·have b1 : decide ((by_.length : Int) > 0) = true := decide_eq_true (by omega)
   have b2 : ((by_.length : Int) != 0) = true := bne_iff_ne.2 (by omega)
   rw [b1, b2]
   exact ⟨false, rfl, rfl⟩
theorem may_same (a0 : Int) (nm : ByteArray) (arg : Int) (lab : ByteArray) (part : Int) (by_ : List Int) (h2 : ¬ a0 = 2) (hp : part = 0) : source_may.f 1000 a0 nm arg lab part by_ = vesperref13_May.f 1000 a0 nm arg lab part by_ := by
 have hj : ∀ b : Bool, source_may.j0 1000 b a0 nm arg lab part by_ = if b = true then (some false) else (if a0 = 1 then (some (nameB nm)) else (if a0 = 3 then (if (by_.length : Int) ≥ 1 then (some (decide ((by_.length : Int) ≤ 256))) else (some false)) else (if a0 = 4 then (if arg ≥ 0 then (some (decide (arg ≤ 65535))) else (some false)) else (if a0 = 5 then (some (nameB lab)) else (some false))))) := fun _ => rfl
 unfold source_may.f vesperref13_May.f
 rw [if_neg h2, if_pos hp, if_neg h2, if_pos hp, isname_eq, isname_eq]
 simp only [hj, Option.bind_some, Bool.false_eq_true, if_false, if_true]
 obtain ⟨n, hn⟩ : ∃ n : Int, (by_.length : Int) = n := ⟨_, rfl⟩
 have n0 : 0 ≤ n := by omega
 rw [hn]
 clear hn hj hp h2
 obtain ⟨b1, hb1⟩ : ∃ b, nameB nm = b := ⟨_, rfl⟩
 obtain ⟨b2, hb2⟩ : ∃ b, nameB lab = b := ⟨_, rfl⟩
 rw [hb1, hb2]
 have e0 : decide (n > 0) = !(n == 0) := by
  by_cases h : n = 0
  ·subst h; rfl
  ·rw [decide_eq_true (by omega), beq_eq_false_iff_ne.2 h]; rfl
 rw [e0]
 by_cases k1 : a0 = 1
 ·subst k1
  by_cases ha : arg = 0 <;> by_cases hl : lab.toList = [] <;> by_cases hb : n = 0 <;> cases b1 <;> simp [ha, hl, hb]
 ·by_cases k3 : a0 = 3
  ·subst k3
   by_cases ha : arg = 0 <;> by_cases hl : lab.toList = [] <;> by_cases hn : nm.toList = [] <;> simp [ha, hl, hn]
  ·by_cases k4 : a0 = 4
   ·subst k4
    by_cases hl : lab.toList = [] <;> by_cases hn : nm.toList = [] <;> by_cases hb : n = 0 <;> simp [hl, hn, hb]
   ·by_cases k5 : a0 = 5
    ·subst k5
     by_cases ha : arg = 0 <;> by_cases hn : nm.toList = [] <;> by_cases hb : n = 0 <;> cases b2 <;> simp [ha, hn, hb]
    ·simp [k1, k3, k4, k5]
theorem may_some (a0 : Int) (nm : ByteArray) (arg : Int) (lab : ByteArray) (part : Int) (by_ : List Int) (h2 : ¬ a0 = 2) (hp : part = 0) : ∃ r, vesperref13_May.f 1000 a0 nm arg lab part by_ = some r := by
 unfold vesperref13_May.f
 rw [if_neg h2, if_pos hp, isname_eq, isname_eq]
 simp only [Option.bind_some]
 repeat' split
 all_goals exact ⟨_, rfl⟩
theorem may_eq (a0 : Int) (nm : ByteArray) (arg : Int) (lab : ByteArray) (part : Int) (by_ : List Int) : ∃ r, source_may.f 1000 a0 nm arg lab part by_ = some r ∧ vesperref13_May.f 1000 a0 nm arg lab part by_ = some r := by
 by_cases h2 : a0 = 2
 ·obtain ⟨r, h1, h3⟩ := instr_eq a0 nm arg lab part by_
  refine ⟨r, ?_, ?_⟩
  ·unfold source_may.f; rw [if_pos h2, h1]; rfl
  ·unfold vesperref13_May.f; rw [if_pos h2, h3]; rfl
 ·by_cases hp : part = 0
  ·obtain ⟨r, h⟩ := may_some a0 nm arg lab part by_ h2 hp
   exact ⟨r, (may_same a0 nm arg lab part by_ h2 hp).trans h, h⟩
  ·refine ⟨false, ?_, ?_⟩
   ·unfold source_may.f; rw [if_neg h2, if_neg hp]; rfl
   ·unfold vesperref13_May.f; rw [if_neg h2, if_neg hp]
theorem size_eq (a0 : Int) (nm : ByteArray) (arg : Int) (lab : ByteArray) (part : Int) (by_ : List Int) : ∃ r, source_Size.f 1000 a0 nm arg lab part by_ = some r ∧ vesperref13_Size.f 1000 a0 nm arg lab part by_ = some r := by
 obtain ⟨b, h1, h2⟩ := may_eq a0 nm arg lab part by_
 unfold source_Size.f vesperref13_Size.f
 rw [h1, h2, Option.bind_some, Option.bind_some, ← find_eq]
 have hf : ∃ q, code_Find.f 1000 nm = some q := by
  obtain ⟨v, g1, -, h⟩ := first_eq nm
  unfold code_Find.f
  rw [g1, Option.bind_some]
  rcases h with rfl | ⟨op, rfl, ho, -⟩
  ·exact ⟨_, rfl⟩
  ·rw [if_neg (by omega), show (op : Int) % 256 = op by omega]
   unfold code_Info.f
   rw [if_pos (by omega), if_pos (by omega)]
   exact ⟨_, rfl⟩
 obtain ⟨q, hq⟩ := hf
 rw [hq]
 simp only [Option.bind_some]
 have h : ∃ r, (if b = true then (if a0 = 2 then (some (q.2.2.1, (0 : Int))) else (if a0 = 3 then (some ((by_.length : Int), 0)) else (if a0 = 5 then (some (2, 0)) else (some (0, 0))))) else (some (0, 130))) = some r := by
  repeat' split
  all_goals exact ⟨_, rfl⟩
 obtain ⟨r, h⟩ := h
 exact ⟨r, h, h⟩
end Go.Proofs.YtjedbamcjgabpaaDoor.PSo
