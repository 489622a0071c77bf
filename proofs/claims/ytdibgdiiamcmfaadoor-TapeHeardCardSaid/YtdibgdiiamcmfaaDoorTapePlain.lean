/- Plain laws of tape.Read's model: which bytes come of which bits. -/
import Derived.Test.YtdibgdiiamcmfaaDoorTapeReadC
import Derived.Test.YtdibgdiiamcmfaaDoorTapeWriteC
set_option linter.unusedVariables false
set_option linter.unusedSimpArgs false
namespace Go.Proofs.YtdibgdiiamcmfaaDoor.Plain
open Go.Proofs.YtdibgdiiamcmfaaDoor.PTape Go.Proofs.YtdibgdiiamcmfaaDoor.Reader Go.Proofs.YtdibgdiiamcmfaaDoor.Write
open Go.Proofs.YtdibgdiiamcmfaaDoor.Bits (tenOf bitsOf odds bits_len)

/-- The bits that waves are. -/
def Is (L : List S37) (B : List Bool) : Prop := L.map bitVal = B.map some
theorem is_cons {x : S37} {L : List S37} {b : Bool} {B : List Bool} : Is (x :: L) (b :: B) ↔ bitVal x = some b ∧ Is L B := by simp [Is]
theorem is_nil_left {B : List Bool} : Is [] B ↔ B = [] := by cases B <;> simp [Is]
theorem is_len {L : List S37} {B : List Bool} (h : Is L B) : L.length = B.length := by have := congrArg List.length h; simpa using this
theorem is_drop {L : List S37} {B : List Bool} (h : Is L B) (n : Nat) : Is (L.drop n) (B.drop n) := by unfold Is at *; rw [List.map_drop, List.map_drop, h]
theorem is_app {L M : List S37} {B C : List Bool} (h : Is L B) (k : Is M C) : Is (L ++ M) (B ++ C) := by unfold Is at *; rw [List.map_append, List.map_append, h, k]

theorem lead_zeros : ∀ (z : Nat) (L : List S37) (i : Nat) (R : List Bool), Is L (List.replicate z false ++ true :: R) → lead L i = .ok (i + z + 1)
  | 0, L, i, R, h => by
    cases L with
    | nil => rw [is_nil_left] at h; simp at h
    | cons x L =>
      rw [List.replicate_zero, List.nil_append, is_cons] at h
      simp only [lead, h.1]
      done
  | z + 1, L, i, R, h => by
    cases L with
    | nil => rw [is_nil_left] at h; simp at h
    | cons x L =>
      rw [List.replicate_succ, List.cons_append, is_cons] at h
      simp only [lead, h.1]
      rw [lead_zeros z L (i + 1) R h.2]
      congr 1
      omega

def runV : List Bool → Int → Int
  | [], b => b
  | c :: cs, b => runV cs (if c then (if 8 - cs.length < 8 then put b (8 - cs.length) else b) else b)
def runO : List Bool → Bool → Bool
  | [], o => o
  | c :: cs, o => runO cs (if c then !o else o)
theorem runO_not : ∀ (cs : List Bool) (o : Bool), runO cs (!o) = !(runO cs o)
  | [], o => rfl
  | c :: cs, o => by
    cases c
    · simp only [runO]; exact runO_not cs o
    · simp only [runO]; simp only [if_true]; exact runO_not cs (!o)
theorem runO_flip : ∀ (cs : List Bool) (j : Nat) (o : Bool) (h : j < cs.length), runO (cs.set j (!cs[j])) o = !(runO cs o)
  | c :: cs, 0, o, _ => by
    simp only [List.set_cons_zero, List.getElem_cons_zero, runO]
    cases c
    · simp [runO_not]
    · simp only [Bool.not_true, if_true, Bool.false_eq_true, if_false]; rw [runO_not, Bool.not_not]
  | c :: cs, j + 1, o, h => by
    simp only [List.set_cons_succ, List.getElem_cons_succ, runO]
    exact runO_flip cs j _ (by simpa using h)

theorem nine_run : ∀ (cs : List Bool) (L : List S37) (i : Nat) (b : Int) (o : Bool) (R : List Bool), Is L (cs ++ R) → nine cs.length L i b o = nine 0 (L.drop cs.length) (i + cs.length) (runV cs b) (runO cs o)
  | [], L, i, b, o, R, _ => by simp [runV, runO]
  | c :: cs, L, i, b, o, R, h => by
    cases L with
    | nil => rw [is_nil_left] at h; simp at h
    | cons x L =>
      rw [List.cons_append, is_cons] at h
      simp only [List.length_cons, nine, h.1, runV, runO, List.drop_succ_cons]
      cases c
      · rw [nine_run cs L (i + 1) b o R h.2]
        simp only [Bool.false_eq_true, if_false]
        rw [show i + 1 + cs.length = i + (cs.length + 1) by omega]
        rfl
      · rw [nine_run cs L (i + 1) _ _ R h.2]
        simp only [if_true]
        rw [show i + 1 + cs.length = i + (cs.length + 1) by omega]
        rfl

theorem byte_bits : ∀ x : Fin 256, runV (bitsOf (x.val : Int) ++ [odds (bitsOf (x.val : Int))]) 0 = (x.val : Int) ∧ runO (bitsOf (x.val : Int) ++ [odds (bitsOf (x.val : Int))]) false = true := by decide +kernel

theorem drop_lead (z : Nat) (Y : List Bool) : (List.replicate z false ++ true :: Y).drop (z + 1) = Y := by
  rw [List.append_cons]; exact List.drop_left' (by simp)

/-- One byte, behind zeros. -/
theorem byteM_ok (l : List S37) (i z : Nat) (x : Int) (h0 : 0 ≤ x) (h1 : x < 256) (R : List Bool) (h : Is (l.drop i) (List.replicate z false ++ (tenOf x ++ R))) : byteM l i = .ok (x, i + z + 10) := by
  obtain ⟨n, rfl⟩ := Int.eq_ofNat_of_zero_le h0
  have hn : n < 256 := by omega
  have hb := byte_bits ⟨n, hn⟩
  simp only at hb
  have ht : tenOf (n : Int) ++ R = true :: ((bitsOf (n : Int) ++ [odds (bitsOf (n : Int))]) ++ R) := by simp [tenOf]
  rw [ht] at h
  unfold byteM
  rw [lead_zeros z _ i _ h]
  simp only
  have h9 : (bitsOf (n : Int) ++ [odds (bitsOf (n : Int))]).length = 9 := by simp [bits_len]
  have hd : Is (l.drop (i + z + 1)) ((bitsOf (n : Int) ++ [odds (bitsOf (n : Int))]) ++ R) := by
    have := is_drop h (z + 1)
    rw [List.drop_drop, drop_lead] at this
    rw [show i + z + 1 = i + (z + 1) by omega]
    exact this
  have := nine_run _ _ (i + z + 1) 0 false R hd
  rw [h9] at this
  rw [this, hb.1, hb.2]
  simp only [nine, if_true]

/-- One byte with one of its nine bits another one. -/
theorem byteM_odd (l : List S37) (i z : Nat) (x : Int) (h0 : 0 ≤ x) (h1 : x < 256) (j : Nat) (hj : j < 9) (R cs : List Bool) (hcs : cs = bitsOf x ++ [odds (bitsOf x)]) (hl : j < cs.length) (h : Is (l.drop i) (List.replicate z false ++ (true :: (cs.set j (!cs[j]) ++ R)))) : byteM l i = .error (121, ((i + z + 9 : Nat) : Int)) := by
  obtain ⟨n, rfl⟩ := Int.eq_ofNat_of_zero_le h0
  have hn : n < 256 := by omega
  have hb := byte_bits ⟨n, hn⟩
  simp only at hb
  rw [← hcs] at hb
  unfold byteM
  rw [lead_zeros z _ i _ h]
  simp only
  have h9 : (cs.set j (!cs[j])).length = 9 := by rw [List.length_set, hcs]; simp [bits_len]
  have hd : Is (l.drop (i + z + 1)) (cs.set j (!cs[j]) ++ R) := by
    have := is_drop h (z + 1)
    rw [List.drop_drop, drop_lead] at this
    rw [show i + z + 1 = i + (z + 1) by omega]
    exact this
  have := nine_run _ _ (i + z + 1) 0 false R hd
  rw [h9] at this
  rw [this, runO_flip cs j false hl, hb.2]
  simp only [nine, Bool.not_true, Bool.false_eq_true, if_false]
  congr 2
  try omega

/-- Bytes, behind zeros. -/
theorem readM_ok : ∀ (bs : List Int) (l : List S37) (i z n : Nat) (acc : List Int) (R : List Bool), (∀ x ∈ bs, 0 ≤ x ∧ x < 256) → Is (l.drop i) (List.replicate z false ++ (bs.flatMap tenOf ++ R)) →
    readM l (bs.length + n) i acc = if bs = [] then readM l n i acc else readM l n (i + z + 10 * bs.length) (acc ++ bs)
  | [], l, i, z, n, acc, R, _, _ => by simp
  | x :: bs, l, i, z, n, acc, R, hb, h => by
    have hx := hb x List.mem_cons_self
    rw [List.flatMap_cons, List.append_assoc] at h
    have h1 := byteM_ok l i z x hx.1 hx.2 _ h
    rw [show (x :: bs).length + n = (bs.length + n) + 1 by simp; omega]
    simp only [readM, h1]
    have h2 : Is (l.drop (i + z + 10)) (List.replicate 0 false ++ (bs.flatMap tenOf ++ R)) := by
      have := is_drop h (z + 10)
      rw [List.drop_drop, ← List.append_assoc, List.drop_left' (by simp [ten_len])] at this
      rw [show i + z + 10 = i + (z + 10) by omega]
      simpa using this
    rw [readM_ok bs l (i + z + 10) 0 n (acc ++ [x]) R (fun y hy => hb y (List.mem_cons_of_mem _ hy)) h2]
    cases bs with
    | nil => simp
    | cons y bs =>
      simp only [reduceCtorEq, if_false, List.append_assoc, List.cons_append, List.nil_append, List.length_cons]
      congr 1
      omega

theorem bit_wave (b : Bool) : bitVal (waveS b) = some b := by cases b <;> decide
theorem is_waves (B : List Bool) : Is (B.map waveS) B := by
  unfold Is
  rw [List.map_map]
  exact List.map_congr_left fun b _ => bit_wave b
end Go.Proofs.YtdibgdiiamcmfaaDoor.Plain
