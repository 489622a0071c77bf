/- Texts of the Script seat, one behind another: ScrCheckL, ScrLentL, ScrLent. -/
import Derived.Test.YtdjffafcmomalaaDoorPScrx2
import Derived.Test.YtdjffafcmomalaaDoorPScrx3
import Derived.Test.YtdjffafcmomalaaDoorPScrx0
import Derived.Laws.CopyRow
import Derived.Laws.CopyOwn
import Derived.Laws.MakeOwn
import Derived.Lib.Hide
/- Check, Cycles, Mode and Same, of the program and of the document's answer: what they tell, plain. Conditions: each lemma's own. -/
set_option linter.unusedVariables false
set_option linter.unusedSimpArgs false
namespace Go.Proofs.YtdjffafcmomalaaDoor.Scr
open Go Go.RowKit
open Go.Proofs.YtdjffafcmomalaaDoorW.PrintWords Go.Proofs.YtdjffafcmomalaaDoor.PScr

def sumC (l : List S34) : Int := (l.map S34.f0).sum
theorem sumC_nil : sumC [] = 0 := rfl
theorem sumC_cons (s : S34) (l : List S34) : sumC (s :: l) = s.f0 + sumC l := rfl
theorem sumC_append (a b : List S34) : sumC (a ++ b) = sumC a + sumC b := by
  induction a with
  | nil => rw [List.nil_append, sumC_nil]; omega
  | cons s a ih => rw [List.cons_append, sumC_cons, sumC_cons, ih]; omega
def okC (s : S34) : Bool := decide (1 ≤ s.f0) && decide (s.f0 ≤ 1048576)
def cyclesR (l : List S34) : Int × Int := if l.length > 4096 then (0, 2) else if l.all okC = true then (if sumC l > 4194304 then (0, 70) else (sumC l, 0)) else (0, 70)
theorem rd_at (p : List S34) (s : S34) (d : List S34) : rd_T34 (p ++ s :: d) (p.length : Int) = s := by
  unfold rd_T34
  rw [Int.toNat_natCast, List.getD_eq_getElem?_getD, List.getElem?_append_right (Nat.le_refl _), Nat.sub_self]
  rfl
theorem w64 {a : Int} (h0 : -9223372036854775808 ≤ a) (h1 : a ≤ 9223372036854775807) : wrap64 a = a := by unfold wrap64; omega
theorem sumC_bounds : ∀ l : List S34, l.all okC = true → (l.length : Int) ≤ sumC l ∧ sumC l ≤ l.length * 1048576
  | [], _ => by rw [sumC_nil]; simp
  | s :: l, h => by
    simp only [List.all_cons, Bool.and_eq_true, okC, decide_eq_true_eq] at h
    have := sumC_bounds l h.2
    rw [sumC_cons, List.length_cons]
    omega
theorem cons_shift (p : List S34) (s : S34) (d : List S34) : p ++ s :: d = (p ++ [s]) ++ d := by simp
theorem okC_no {s : S34} (h : s.f0 < 1 ∨ s.f0 > 1048576) : okC s = false := by
  simp only [okC, Bool.and_eq_false_iff, decide_eq_false_iff_not]; omega
theorem okC_yes {s : S34} (h : ¬ s.f0 < 1) (h' : ¬ s.f0 > 1048576) : okC s = true := by
  simp only [okC, Bool.and_eq_true, decide_eq_true_eq]; omega

theorem cycles_l0 : ∀ (d p : List S34) (n : Int) (k : Nat), d.length < k → 0 ≤ n → n ≤ p.length * 1048576 → (p ++ d).length ≤ 4096 →
    script_Cycles.l0 k n (p ++ d) ((p ++ d).length : Nat) (p.length : Int) = some (if d.all okC = true then (if n + sumC d > 4194304 then (0, 70) else (n + sumC d, 0)) else (0, 70)) := by
  intro d
  induction d with
  | nil =>
    intro p n k hk h0 h1 hl
    obtain ⟨k, rfl⟩ : ∃ m, k = m + 1 := ⟨k - 1, by simp at hk; omega⟩
    rw [script_Cycles.l0, List.append_nil, if_neg (by omega), sumC_nil, Int.add_zero]
    simp only [List.all_nil, if_true]
    split <;> rfl
  | cons s d ih =>
    intro p n k hk h0 h1 hl
    obtain ⟨k, rfl⟩ : ∃ m, k = m + 1 := ⟨k - 1, by simp at hk; omega⟩
    have hl' : p.length + (d.length + 1) ≤ 4096 := by simpa using hl
    rw [script_Cycles.l0, rd_at, if_pos (by simp; omega), if_pos (by omega), if_pos (by simp; omega)]
    rw [List.all_cons]
    by_cases c1 : s.f0 < 1
    · rw [if_pos c1, okC_no (.inl c1)]; rfl
    rw [if_neg c1]
    by_cases c2 : s.f0 > 1048576
    · rw [if_pos c2, okC_no (.inr c2)]; rfl
    rw [if_neg c2, okC_yes c1 c2, w64 (by omega) (by omega), w64 (by omega) (by omega), sumC_cons, cons_shift]
    have := ih (p ++ [s]) (n + s.f0) k (by simp at hk; omega) (by omega) (by simp; omega) (by simp; omega)
    rw [show ((p ++ [s]).length : Int) = (p.length : Int) + 1 by simp] at this
    rw [this, Bool.true_and, Int.add_assoc]
theorem cycles_f (k : Nat) (l : List S34) (hk : 5000 ≤ k) : script_Cycles.f k l = some (cyclesR l) := by
  unfold script_Cycles.f cyclesR
  by_cases c : l.length > 4096
  · rw [if_pos (by omega), if_pos c]
  · rw [if_neg (by omega), if_neg c]
    have := cycles_l0 l [] 0 k (by omega) (by omega) (by simp) (by simpa using c)
    rw [List.nil_append, Int.zero_add] at this
    exact this
theorem check_f (k : Nat) (l : List S34) (hk : 5000 ≤ k) : script_Check.f k l = some (cyclesR l).2 := by
  unfold script_Check.f
  rw [cycles_f k l hk]; rfl

/-! ### The document's answer -/
theorem rcheck_l0 : ∀ (d p : List S34) (n : Int) (k : Nat), d.length < k → 0 ≤ n → n ≤ p.length * 1048576 → (p ++ d).length ≤ 4096 →
    vesperref07_Check.l0 k (p ++ d) n (p.length : Int) = some (if d.all okC = true then (if n + sumC d > 4194304 then 70 else 0) else 70) := by
  intro d
  induction d with
  | nil =>
    intro p n k hk h0 h1 hl
    obtain ⟨k, rfl⟩ : ∃ m, k = m + 1 := ⟨k - 1, by simp at hk; omega⟩
    rw [vesperref07_Check.l0, List.append_nil, if_neg (by omega), sumC_nil, Int.add_zero]
    simp only [List.all_nil, if_true]
    split <;> rfl
  | cons s d ih =>
    intro p n k hk h0 h1 hl
    obtain ⟨k, rfl⟩ : ∃ m, k = m + 1 := ⟨k - 1, by simp at hk; omega⟩
    have hl' : p.length + (d.length + 1) ≤ 4096 := by simpa using hl
    rw [vesperref07_Check.l0, rd_at, if_pos (by simp; omega), if_pos (by omega)]
    rw [List.all_cons]
    by_cases c1 : s.f0 < 1
    · rw [if_pos c1, okC_no (.inl c1)]; rfl
    rw [if_neg c1]
    by_cases c2 : s.f0 > 1048576
    · rw [if_pos c2, okC_no (.inr c2)]; rfl
    rw [if_neg c2, okC_yes c1 c2, w64 (by omega) (by omega), w64 (by omega) (by omega), sumC_cons, cons_shift]
    have := ih (p ++ [s]) (n + s.f0) k (by simp at hk; omega) (by omega) (by simp; omega) (by simp; omega)
    rw [show ((p ++ [s]).length : Int) = (p.length : Int) + 1 by simp] at this
    rw [this, Bool.true_and, Int.add_assoc]
theorem rcheck_f (k : Nat) (l : List S34) (hk : 5000 ≤ k) : vesperref07_Check.f k l = some (cyclesR l).2 := by
  unfold vesperref07_Check.f cyclesR
  by_cases c : l.length > 4096
  · rw [if_pos (by omega), if_pos c]
  · rw [if_neg (by omega), if_neg c]
    have := rcheck_l0 l [] 0 k (by omega) (by omega) (by simp) (by simpa using c)
    rw [List.nil_append, Int.zero_add] at this
    rw [show ((([] : List S34).length : Nat) : Int) = 0 from rfl] at this
    rw [this]
    split
    · split <;> rfl
    · rfl
theorem rcycles_l0 : ∀ (d p : List S34) (n : Int) (k : Nat), d.length < k → 0 ≤ n → n ≤ p.length * 1048576 → (p ++ d).length ≤ 4096 → d.all okC = true →
    vesperref07_Cycles.l0 k (p ++ d) n (p.length : Int) = some (n + sumC d, 0) := by
  intro d
  induction d with
  | nil =>
    intro p n k hk h0 h1 hl ha
    obtain ⟨k, rfl⟩ : ∃ m, k = m + 1 := ⟨k - 1, by simp at hk; omega⟩
    rw [vesperref07_Cycles.l0, List.append_nil, if_neg (by omega), sumC_nil, Int.add_zero]
  | cons s d ih =>
    intro p n k hk h0 h1 hl ha
    obtain ⟨k, rfl⟩ : ∃ m, k = m + 1 := ⟨k - 1, by simp at hk; omega⟩
    have hl' : p.length + (d.length + 1) ≤ 4096 := by simpa using hl
    simp only [List.all_cons, Bool.and_eq_true] at ha
    have hs := ha.1
    simp only [okC, Bool.and_eq_true, decide_eq_true_eq] at hs
    rw [vesperref07_Cycles.l0, rd_at, if_pos (by simp; omega), if_pos (by omega), w64 (by omega) (by omega), w64 (by omega) (by omega), sumC_cons, cons_shift]
    have := ih (p ++ [s]) (n + s.f0) k (by simp at hk; omega) (by omega) (by simp; omega) (by simp; omega) ha.2
    rw [show ((p ++ [s]).length : Int) = (p.length : Int) + 1 by simp] at this
    rw [this, Int.add_assoc]
theorem cyclesR_ok {l : List S34} (h : (cyclesR l).2 = 0) : l.length ≤ 4096 ∧ l.all okC = true ∧ sumC l ≤ 4194304 ∧ cyclesR l = (sumC l, 0) := by
  unfold cyclesR at h ⊢
  by_cases c : l.length > 4096
  · rw [if_pos c] at h; cases h
  · rw [if_neg c] at h ⊢
    by_cases c2 : l.all okC = true
    · rw [if_pos c2] at h ⊢
      by_cases c3 : sumC l > 4194304
      · rw [if_pos c3] at h; cases h
      · rw [if_neg c3]; exact ⟨by omega, c2, by omega, rfl⟩
    · rw [if_neg c2] at h; cases h
theorem cyclesR_mk {l : List S34} (h1 : l.length ≤ 4096) (h2 : l.all okC = true) (h3 : sumC l ≤ 4194304) : cyclesR l = (sumC l, 0) := by
  unfold cyclesR
  rw [if_neg (by omega), if_pos h2, if_neg (by omega)]
theorem cyclesR_bad {l : List S34} (h : (cyclesR l).2 ≠ 0) : cyclesR l = (0, (cyclesR l).2) := by
  unfold cyclesR at h ⊢
  by_cases c : l.length > 4096
  · rw [if_pos c]
  · rw [if_neg c] at h ⊢
    by_cases c2 : l.all okC = true
    · rw [if_pos c2] at h ⊢
      by_cases c3 : sumC l > 4194304
      · rw [if_pos c3]
      · rw [if_neg c3] at h; exact (h rfl).elim
    · rw [if_neg c2]
theorem rcycles_f (k : Nat) (l : List S34) (hk : 5000 ≤ k) : vesperref07_Cycles.f k l = some (cyclesR l) := by
  unfold vesperref07_Cycles.f
  rw [rcheck_f k l hk, Option.bind_some]
  by_cases c : (cyclesR l).2 = 0
  · obtain ⟨h1, h2, h3, h4⟩ := cyclesR_ok c
    have := rcycles_l0 l [] 0 k (by omega) (by omega) (by simp) (by simpa using h1) h2
    rw [List.nil_append, Int.zero_add, show ((([] : List S34).length : Nat) : Int) = 0 from rfl] at this
    rw [if_pos c, this, h4]
  · rw [if_neg c, ← cyclesR_bad c]
def modeR (s : S34) : Int := if s.f7 = true then (if s.f8 = true then 3 else 2) else (if s.f8 = true then 1 else 0)
theorem mode_f (k : Nat) (s : S34) : script_Mode.f (k + 1) s.f0 s.f1 s.f2 s.f3 s.f4 s.f5 s.f6 s.f7 s.f8 s.f9 = some (modeR s) := by
  unfold script_Mode.f modeR
  cases s.f7 <;> cases s.f8 <;> rfl
theorem rmode_f (k : Nat) (s : S34) : vesperref07_Mode.f (k + 1) s.f0 s.f1 s.f2 s.f3 s.f4 s.f5 s.f6 s.f7 s.f8 s.f9 = some (modeR s) := by
  unfold vesperref07_Mode.f modeR
  cases s.f7 <;> cases s.f8 <;> rfl

/-! ### Same -/
def eqb (a b : S34) : Bool := a.f0 == b.f0 && (a.f1 == b.f1 && (a.f2 == b.f2 && (a.f3 == b.f3 && (a.f4 == b.f4 && (a.f5 == b.f5 && (a.f6 == b.f6 && (a.f7 == b.f7 && (a.f8 == b.f8 && a.f9 == b.f9))))))))
theorem eqb_iff (a b : S34) : eqb a b = true ↔ a = b := by
  obtain ⟨a0, a1, a2, a3, a4, a5, a6, a7, a8, a9⟩ := a
  obtain ⟨b0, b1, b2, b3, b4, b5, b6, b7, b8, b9⟩ := b
  simp [eqb]
theorem neq_eqb (a b : S34) : (!(a.f0 == b.f0) || (!(a.f1 == b.f1) || (!(a.f2 == b.f2) || (!(a.f3 == b.f3) || (!(a.f4 == b.f4) || (!(a.f5 == b.f5) || (!(a.f6 == b.f6) || (!(a.f7 == b.f7) || (!(a.f8 == b.f8) || (!(a.f9 == b.f9))))))))))) = !(eqb a b) := by
  unfold eqb
  simp only [Bool.not_and]
def sameR : List S34 → List S34 → Bool
  | [], [] => true
  | a :: l, b :: m => eqb a b && sameR l m
  | _, _ => false
theorem sameR_iff : ∀ (l m : List S34), sameR l m = true ↔ l = m
  | [], [] => by simp [sameR]
  | [], b :: m => by simp [sameR]
  | a :: l, [] => by simp [sameR]
  | a :: l, b :: m => by simp [sameR, sameR_iff l m, eqb_iff]
theorem same_l0 : ∀ (d d' p p' : List S34) (k : Nat), d.length < k → p.length = p'.length → d.length = d'.length → p.length + d.length ≤ 1000000000000 →
    vesperref07_Same.l0 k (p ++ d) (p' ++ d') (p.length : Int) = some (sameR d d')
  | [], d', p, p', k, hk, hp, hd, hb => by
    obtain ⟨k, rfl⟩ : ∃ m, k = m + 1 := ⟨k - 1, by simp at hk; omega⟩
    obtain rfl : d' = [] := List.length_eq_zero_iff.1 hd.symm
    rw [vesperref07_Same.l0, List.append_nil, if_neg (by omega)]; rfl
  | s :: d, [], p, p', k, hk, hp, hd, hb => by simp at hd
  | s :: d, s' :: d', p, p', k, hk, hp, hd, hb => by
    obtain ⟨k, rfl⟩ : ∃ m, k = m + 1 := ⟨k - 1, by simp at hk; omega⟩
    have e2 : rd_T34 (p' ++ s' :: d') (p.length : Int) = s' := by rw [hp]; exact rd_at p' s' d'
    simp only [List.length_cons] at hd hb hk
    rw [vesperref07_Same.l0, rd_at, e2, if_pos (by simp; omega), if_pos (by omega), if_pos (by simp; omega), neq_eqb]
    by_cases c : eqb s s' = true
    · have := same_l0 d d' (p ++ [s]) (p' ++ [s']) k (by omega) (by simp [hp]) (by omega) (by simp; omega)
      rw [show ((p ++ [s]).length : Int) = (p.length : Int) + 1 by simp] at this
      rw [c, if_neg (by decide), w64 (by omega) (by omega), cons_shift p, cons_shift p', this, sameR, c, Bool.true_and]
    · rw [Bool.not_eq_true] at c
      rw [c, if_pos (by decide), sameR, c, Bool.false_and]
theorem sameR_len : ∀ (l m : List S34), l.length ≠ m.length → sameR l m = false
  | [], [], h => (h rfl).elim
  | [], b :: m, _ => rfl
  | a :: l, [], _ => rfl
  | a :: l, b :: m, h => by rw [sameR, sameR_len l m (fun e => h (by simp [e])), Bool.and_false]
theorem same_f (k : Nat) (l m : List S34) (hk : l.length < k) (hb : l.length ≤ 1000000000000) : vesperref07_Same.f k l m = some (sameR l m) := by
  unfold vesperref07_Same.f
  by_cases c : l.length = m.length
  · rw [if_pos (by omega)]
    exact same_l0 l m [] [] k hk rfl c (by simpa using hb)
  · rw [if_neg (by omega), sameR_len l m c]
theorem same_self (k : Nat) (l : List S34) (hk : l.length < k) (hb : l.length ≤ 1000000000000) : vesperref07_Same.f k l l = some true := by
  rw [same_f k l l hk hb, (sameR_iff l l).2 rfl]
end Go.Proofs.YtdjffafcmomalaaDoor.Scr
/- A row that came in, copied into a row of the call's own that is longer. Over any program and any flat kind. -/
set_option linter.unusedVariables false
set_option linter.unusedSimpArgs false
namespace Go.Proofs.YtdjffafcmomalaaDoor.LentL
open Go Go.RowKit
open Go.Proofs.YtdjffafcmomalaaDoorW.PrintWords

/-- copy, kept shut in a walk. -/
def copyG (ts : Array TypeId) (t : TypeId) (xs : Array Value) : Sem Value := Builtin.copy_ ts t xs
theorem copyG_eq (ts : Array TypeId) (t : TypeId) (xs : Array Value) : Builtin.copy_ ts t xs = copyG ts t xs := rfl

theorem run_copy_wide {P : Program} (w : World) (dT sT ty elem sz : Nat) (g o dLen dCap : Nat) (a : Addr) (sLen sCap : Nat) (cur : Array Value) (t : TypeId) (cs : List Value)
    (hu : P.underlying dT = some (.slice elem)) (hs : (P.info? elem).map (·.size) = some sz)
    (hg : w.heap[g]? = some (.cells cur t (0, 0))) (hn : cs.length = Nat.min sLen dLen * sz)
    (hsrc : ∀ j v, cs[j]? = some v → w.cell? (a.add j) = some v) (hfit : o + cs.length ≤ cur.size) (h1 : ∀ v ∈ cs, v.oneCell' = true) :
    (Builtin.copy_ #[dT, sT] ty #[.slice (some ⟨g, o, none⟩) dLen dCap, .slice (some a) sLen sCap]).run P w =
      .ok (goInt (Nat.min sLen dLen)) (w.setRow g (cur.toList.take o ++ cs ++ cur.toList.drop (o + cs.length)).toArray) := by
  have hl := run_loadCells_list (P := P) w a cs hsrc
  have hst := run_storeCells_at P g o t cs 0 cur w hg (by simpa using hfit) h1
  cases hq : P.info? elem with
  | none => simp [hq] at hs
  | some i =>
    have hi : i.size = sz := by simpa [hq] using hs
    simp [Builtin.copy_, run_underlying hu, Builtin.lenOf, Builtin.firstCells, sizeOf, typeInfo, hq, hi, ← hn, hl, hst]

theorem setRow_block (w : World) (g : Nat) (cs : Array Value) (cur : Array Value) (t : TypeId) (hg : w.heap[g]? = some (.cells cur t (0, 0))) : (w.setRow g cs).heap[g]? = some (.cells cs t (0, 0)) := setRow_heap w g cur cs t (0, 0) hg

theorem made_drop {z : Array Value} {sz : Nat} (hz : z.size = sz) (n m : Nat) : (madeCells z ((n + m) * sz)).toList.drop (n * sz) = (madeCells z (m * sz)).toList := by
  apply List.ext_getElem
  · simp [size_madeCells, Nat.add_mul]
  · intro i h1 h2
    simp [madeCells, hz, Nat.mul_add_mod_self_right]

section
variable {α : Type} (d : Kd α)

/-- What copy leaves: a row of the own, the rest zeros. -/
theorem lent_run {P : Program} (flat : ∀ {w w' : World} {base : Nat} {ok : Nat → Prop} {x : α} {cs : List Value}, d.K w x cs → d.M w' base ok x cs) (t ty e : TypeId) (z : Value) (bytes : Nat)
    (ht : P.underlying t = some (.slice e)) (hinfo : (P.info? e).map (fun i => (i.zero, i.size, i.bytes)) = some (some z, d.sz, bytes)) (hz : z.cells.size = d.sz) (hs0 : 0 < d.sz)
    (z0 : α) {w : World} (hzero : d.K w z0 z.cells.toList) (m : Nat) {A : Option Addr} {l : List α} (c : Nat) (hC : d.C w A l.length l) (hm : l.length + m ≤ maxLen) :
    ∃ W2, (copyG #[t, t] ty #[.slice (some ⟨w.heap.size, 0, none⟩) (l.length + m) (l.length + m), .slice A l.length c]).run P (w.alloc (.cells (madeCells z.cells ((l.length + m) * d.sz)) e)) = .ok (goInt l.length) W2 ∧
      d.R e W2 w.heap.size (fun _ => True) (.slice (some ⟨w.heap.size, 0, none⟩) (l.length + m) (l.length + m)) (l ++ List.replicate m z0) ∧ Below w.heap.size w W2 := by
  have hsz : (P.info? e).map (·.size) = some d.sz := by
    obtain ⟨i0, hi, hzz⟩ := Option.map_eq_some_iff.1 hinfo
    simp only [Prod.mk.injEq] at hzz
    rw [hi]; simp [hzz.2.1]
  have hnew : (w.alloc (.cells (madeCells z.cells ((l.length + m) * d.sz)) e)).heap[w.heap.size]? = some (.cells (madeCells z.cells ((l.length + m) * d.sz)) e (0, 0)) := heap_alloc_new w _
  have hrest : Reps (d.M w w.heap.size (fun k => True ∧ some k ≠ (Value.slice (some ⟨w.heap.size, 0, none⟩) (l.length + m) (l.length + m)).ownBlock)) d.sz (List.replicate m z0) (madeCells z.cells (m * d.sz)).toList := Kd.reps_made hz hs0 (flat hzero) m
  have key : ∀ (cs : List Value), cs.length = l.length * d.sz → Reps (d.K w) d.sz l cs → ∀ W2 : World, W2.heap[w.heap.size]? = some (.cells (cs ++ (madeCells z.cells ((l.length + m) * d.sz)).toList.drop cs.length).toArray e (0, 0)) →
      d.R e W2 w.heap.size (fun _ => True) (.slice (some ⟨w.heap.size, 0, none⟩) (l.length + m) (l.length + m)) (l ++ List.replicate m z0) := by
    intro cs hcs hreps W2 hW2
    have hdrop : (madeCells z.cells ((l.length + m) * d.sz)).toList.drop cs.length = (madeCells z.cells (m * d.sz)).toList := by
      rw [hcs]; exact made_drop hz _ _
    rw [hdrop] at hW2
    refine ⟨fun _ _ => trivial, cs ++ (madeCells z.cells (m * d.sz)).toList, ⟨?_, .inr ⟨w.heap.size, l.length + m, _, by simp, Nat.le_refl _, hW2, Nat.le_of_eq ?_, hm, ?_, ?_⟩⟩, Kd.reps_append (hreps.imp_ (fun _ _ h => flat h)) (Kd.reps_made hz hs0 (flat hzero) m)⟩
    · rw [List.length_append, hcs]; simp [size_madeCells, Nat.add_mul]
    · simp
    · simp [hcs, size_madeCells, Nat.add_mul]
    · rw [List.take_of_length_le]
      simp [hcs, size_madeCells, Nat.add_mul]
  cases A with
  | none =>
    have hl : l = [] := by
      cases l with
      | nil => rfl
      | cons x xs => obtain ⟨ad, e, _⟩ := hC.2.2 (by simp); cases e
    subst hl
    refine ⟨w.alloc (.cells (madeCells z.cells ((([] : List α).length + m) * d.sz)) e), ?_, key [] (by simp) (Reps.none _ _) _ ?_, below_alloc (Below.refl _ _) _⟩
    · unfold copyG
      rw [show (Value.slice none ([] : List α).length c) = .slice none 0 c from rfl]
      cases hq : P.info? e with
      | none => simp [hq] at hsz
      | some i => simp [Builtin.copy_, run_underlying ht, Builtin.lenOf, Builtin.firstCells, sizeOf, typeInfo, hq, storeCells]
    · simpa using hnew
  | some ad =>
    obtain ⟨cs, hreps, hcell⟩ := ReadsRow.inner_ hC
    have hcs := hreps.1
    have hmin : Nat.min l.length (l.length + m) = l.length := Nat.min_eq_left (by omega)
    have hrun := run_copy_wide (P := P) (w.alloc (.cells (madeCells z.cells ((l.length + m) * d.sz)) e)) t t ty e d.sz w.heap.size 0 (l.length + m) (l.length + m) ad l.length c _ e cs ht hsz hnew (by rw [hcs, hmin])
      (fun j v hj => by rw [(below_alloc (Below.refl w.heap.size w) _).cell (World.block_lt_of_cell? w _ (hcell j v hj))]; exact hcell j v hj) (by simp [size_madeCells, hcs, Nat.add_mul]) (fun v hv => Kd.reps_one hreps hs0 (fun _ _ h => d.K_one h) v hv)
    rw [hmin] at hrun
    refine ⟨_, hrun, ?_, ?_⟩
    · exact key cs hcs hreps _ (by simpa using setRow_block _ _ _ _ _ hnew)
    · exact below_setRow (below_alloc (Below.refl w.heap.size w) _) (Nat.le_refl _) _
end
end Go.Proofs.YtdjffafcmomalaaDoor.LentL
/- vesperlaw07.lent and vesperlaw07.back: spans lent with a mark behind them, and taken back. -/
set_option linter.unusedVariables false
set_option linter.unusedSimpArgs false
namespace Go.Proofs.YtdjffafcmomalaaDoor.Lent
open Go Go.RowKit
open Go.Proofs.YtdjffafcmomalaaDoorW.PrintWords Go.Proofs.YtdjffafcmomalaaDoor.PScr Go.Proofs.YtdjffafcmomalaaDoor.Scr Go.Proofs.YtdjffafcmomalaaDoor.LentL
attribute [local go_sem ↓ high] copyG_eq

def RW (w : World) (b : Nat) (v : Value) (l : List S34) : Prop := k34.R 34 w b (fun _ => True) v l
def markS (n : Int) : S34 := ⟨n, 0, false, false, false, false, false, false, false, 0⟩
/-- The list behind i stores of one span. -/
def fill (p : S34) (i : Nat) (l : List S34) : List S34 := List.replicate i p ++ l.drop i
theorem fill_len (p : S34) (i : Nat) (l : List S34) (h : i ≤ l.length) : (fill p i l).length = l.length := by simp [fill]; omega
theorem fill_zero (p : S34) (l : List S34) : fill p 0 l = l := by simp [fill]
theorem fill_all (p : S34) (l : List S34) : fill p l.length l = List.replicate l.length p := by simp [fill]
theorem fill_set (p : S34) (i : Nat) (l : List S34) (h : i < l.length) : (fill p i l).set i p = fill p (i + 1) l := by
  unfold fill
  rw [List.set_append_right _ _ (by simp), List.length_replicate, Nat.sub_self, List.drop_eq_getElem_cons h, List.set_cons_zero, List.replicate_succ', List.append_assoc]
  rfl
/-- One element of a row that is stored anew. -/
theorem elem34 {w : World} {b0 g n cap : Nat} {l : List S34} (h : RW w b0 (.slice (some ⟨g, 0, none⟩) n cap) l) (i : Nat) (hi : i < n) (p : S34) :
    (∃ u, w.cell? ⟨g, i * 10, none⟩ = some (.int .i64 u)) ∧ (∃ u, w.cell? ⟨g, i * 10 + 1, none⟩ = some (.int .u16 u)) ∧ (∃ u, w.cell? ⟨g, i * 10 + 2, none⟩ = some (.bool u)) ∧ (∃ u, w.cell? ⟨g, i * 10 + 3, none⟩ = some (.bool u)) ∧ (∃ u, w.cell? ⟨g, i * 10 + 4, none⟩ = some (.bool u)) ∧ (∃ u, w.cell? ⟨g, i * 10 + 5, none⟩ = some (.bool u)) ∧ (∃ u, w.cell? ⟨g, i * 10 + 6, none⟩ = some (.bool u)) ∧ (∃ u, w.cell? ⟨g, i * 10 + 7, none⟩ = some (.bool u)) ∧ (∃ u, w.cell? ⟨g, i * 10 + 8, none⟩ = some (.bool u)) ∧ (∃ u, w.cell? ⟨g, i * 10 + 9, none⟩ = some (.int .u8 u)) ∧ w.frozen? ⟨g, i * 10, none⟩ = false ∧ w.frozen? ⟨g, i * 10 + 1, none⟩ = false ∧ w.frozen? ⟨g, i * 10 + 2, none⟩ = false ∧ w.frozen? ⟨g, i * 10 + 3, none⟩ = false ∧ w.frozen? ⟨g, i * 10 + 4, none⟩ = false ∧ w.frozen? ⟨g, i * 10 + 5, none⟩ = false ∧ w.frozen? ⟨g, i * 10 + 6, none⟩ = false ∧ w.frozen? ⟨g, i * 10 + 7, none⟩ = false ∧ w.frozen? ⟨g, i * 10 + 8, none⟩ = false ∧ w.frozen? ⟨g, i * 10 + 9, none⟩ = false ∧
    RW ((((((((((w.setCell ⟨g, i * 10, none⟩ (.int .i64 p.f0)).setCell ⟨g, i * 10 + 1, none⟩ (.int .u16 p.f1)).setCell ⟨g, i * 10 + 2, none⟩ (.bool p.f2)).setCell ⟨g, i * 10 + 3, none⟩ (.bool p.f3)).setCell ⟨g, i * 10 + 4, none⟩ (.bool p.f4)).setCell ⟨g, i * 10 + 5, none⟩ (.bool p.f5)).setCell ⟨g, i * 10 + 6, none⟩ (.bool p.f6)).setCell ⟨g, i * 10 + 7, none⟩ (.bool p.f7)).setCell ⟨g, i * 10 + 8, none⟩ (.bool p.f8)).setCell ⟨g, i * 10 + 9, none⟩ (.int .u8 p.f9)) b0 (.slice (some ⟨g, 0, none⟩) n cap) (l.set i p) ∧ w.grownBy ((((((((((w.setCell ⟨g, i * 10, none⟩ (.int .i64 p.f0)).setCell ⟨g, i * 10 + 1, none⟩ (.int .u16 p.f1)).setCell ⟨g, i * 10 + 2, none⟩ (.bool p.f2)).setCell ⟨g, i * 10 + 3, none⟩ (.bool p.f3)).setCell ⟨g, i * 10 + 4, none⟩ (.bool p.f4)).setCell ⟨g, i * 10 + 5, none⟩ (.bool p.f5)).setCell ⟨g, i * 10 + 6, none⟩ (.bool p.f6)).setCell ⟨g, i * 10 + 7, none⟩ (.bool p.f7)).setCell ⟨g, i * 10 + 8, none⟩ (.bool p.f8)).setCell ⟨g, i * 10 + 9, none⟩ (.int .u8 p.f9)) (some g) := by
  obtain ⟨ce, hcl, hM, hcc, hfr⟩ := Kd.R_elem h z34 (i : Int) (by omega) (by omega)
  obtain rfl := k34_openM hM
  have HP := Kd.R_seg h (i : Int) (by omega) (by omega) (seg := [.int .i64 p.f0, .int .u16 p.f1, .bool p.f2, .bool p.f3, .bool p.f4, .bool p.f5, .bool p.f6, .bool p.f7, .bool p.f8, .int .u8 p.f9]) (j := 0) hcl hcc (show 10 ≤ 10 from by decide) (x' := p) (k34_mkM _ _ _ p) (fun _ hk => hk)
  exact ⟨⟨_, hcc 0 _ rfl⟩, ⟨_, hcc 1 _ rfl⟩, ⟨_, hcc 2 _ rfl⟩, ⟨_, hcc 3 _ rfl⟩, ⟨_, hcc 4 _ rfl⟩, ⟨_, hcc 5 _ rfl⟩, ⟨_, hcc 6 _ rfl⟩, ⟨_, hcc 7 _ rfl⟩, ⟨_, hcc 8 _ rfl⟩, ⟨_, hcc 9 _ rfl⟩, hfr 0, hfr 1, hfr 2, hfr 3, hfr 4, hfr 5, hfr 6, hfr 7, hfr 8, hfr 9, HP.1, HP.2⟩

theorem flat34 {w w' : World} {base : Nat} {ok : Nat → Prop} {x : S34} {cs : List Value} (h : k34.K w x cs) : k34.M w' base ok x cs := by
  rw [k34_open h]; exact k34_mkM w' base ok x

abbrev zero34v : Value := .agg #[(.int .i64 0), (.int .u16 0), (.bool false), (.bool false), (.bool false), (.bool false), (.bool false), (.bool false), (.bool false), (.int .u8 0)]
theorem make_eq (w : World) (n : Nat) (hn : n ≤ 1000000000000) : (Instr.makeSlice 23 (.int .i64 ((n : Int) + 1)) (.int .i64 ((n : Int) + 1))).run Tryd.prog w = .ok (.slice (some ⟨w.heap.size, 0, none⟩) (n + 1) (n + 1)) (w.alloc (.cells (madeCells zero34v.cells ((n + 1) * 10)) 34)) := by
  obtain ⟨i0, hi, hzz⟩ := Option.map_eq_some_iff.1 info34
  simp only [Prod.mk.injEq] at hzz
  obtain ⟨hz0, hz1, hz2⟩ := hzz
  have h := run_make (P := Tryd.prog) (w := w) 23 34 i0 _ Tryd.underlying23 hi hz0 .i64 .i64 ((n : Int) + 1) ((n : Int) + 1) (by omega) (Int.le_refl _) (by rw [hz2]; omega) (by omega)
  rw [hz1, show ((n : Int) + 1).toNat = n + 1 by omega] at h
  exact h

set_option maxRecDepth 100000 in
set_option maxHeartbeats 4000000 in
theorem lent_calls (A : Option Addr) (c : Nat) (l : List S34) (w : World) (hr : Kd.C k34 w A l.length l) (hc : l.length ≤ c) (hl : l.length ≤ 100000000000) :
    Calls Tryd.prog 13 #[.slice A l.length c] w fun e w' => ∃ g, w.heap.size ≤ g ∧ e = .returned (.slice (some ⟨g, 0, none⟩) l.length (l.length + 1)) ∧ RW w' w.heap.size (.slice (some ⟨g, 0, none⟩) (l.length + 1) (l.length + 1)) (l ++ [markS (-77)]) ∧ Below w.heap.size w w' := by
  obtain ⟨W2, h2, hR, hB⟩ := lent_run k34 (P := Tryd.prog) flat34 23 3 34 zero34v 24 Tryd.underlying23 info34 rfl (by decide) z34 (w := w) (k34_mk w z34) 1 c hr (by simp only [maxLen]; omega)
  have hm := make_eq w l.length (by omega)
  obtain ⟨⟨u0, c0⟩, ⟨u1, c1⟩, ⟨u2, c2⟩, ⟨u3, c3⟩, ⟨u4, c4⟩, ⟨u5, c5⟩, ⟨u6, c6⟩, ⟨u7, c7⟩, ⟨u8, c8⟩, ⟨u9, c9⟩, f0, f1, f2, f3, f4, f5, f6, f7, f8, f9, hS, hG⟩ := elem34 hR l.length (by omega) (markS (-77))
  have hset : (l ++ List.replicate 1 z34).set l.length (markS (-77)) = l ++ [markS (-77)] := by
    rw [List.set_append_right _ _ (Nat.le_refl _), Nat.sub_self]; rfl
  rw [hset] at hS
  have HS := Aside0.mk hS
  have HB := Aside0.mk (hB.grown hG hB.size (fun k hk => by cases hk; exact Nat.le_refl _))
  clear hS hB hR hG hset
  simp only [goInt] at h2
  rw [show (k34).sz = 10 from rfl] at h2
  generalize Obj.cells (madeCells zero34v.cells ((l.length + 1) * 10)) 34 = O at h2 hm
  go_enter Tryd.func13, Tryd.ntmps13
  go_wp2
  go_ret
  exact ⟨_, Nat.le_refl _, rfl, HS.out, HB.out⟩

theorem grown_drewN (w : World) (n : Nat) (row : Option Nat) : w.grownBy (w.drewN n) row := ⟨rfl, rfl, rfl, Nat.le_refl _, fun _ _ _ => rfl⟩


set_option maxRecDepth 100000 in
set_option maxHeartbeats 4000000 in
theorem back_calls (A : Option Addr) (c : Nat) (l : List S34) (g b0 : Nat) (w : World) (hr : Kd.C k34 w A l.length l) (hc : l.length ≤ c) (hl : l.length ≤ 100000000000) (hx : RW w b0 (.slice (some ⟨g, 0, none⟩) (l.length + 1) (l.length + 1)) (l ++ [markS (-77)])) :
    Calls Tryd.prog 16 #[.slice (some ⟨g, 0, none⟩) l.length (l.length + 1), .slice A l.length c] w fun e w' => e = .returned (.bool true) ∧ w.grownBy w' (some g) := by
  have hC : Kd.C k34 w (some ⟨g, 0, none⟩) l.length l := by
    have := (Kd.R_reads' (Kd.R_take hx (m := l.length) (by simp))).2.2
    simpa using this
  have c77 : w.cell? ⟨g, l.length * 10, none⟩ = some (.int .i64 (-77)) := by
    obtain ⟨ad, e, q, _⟩ := at_T34 (Kd.R_reads' hx).2.2 (l.length : Int) (by omega) (by simp; omega)
    cases e
    have hrd : rd_T34 (l ++ [markS (-77)]) (l.length : Int) = markS (-77) := rd_at l (markS (-77)) []
    rw [hrd] at q
    have q2 : w.cell? ((⟨g, 0, none⟩ : Addr).add ((l.length : Int).toNat * 10)) = some (.int .i64 (-77)) := q
    simpa only [add_plain, Int.toNat_natCast, Nat.zero_add] using q2
  have HX := Aside0.mk hx
  have HC := Aside0.mk hC
  have HR := Aside0.mk hr
  have HS := Aside0.mk (same_self (l.length + 1) l (by omega) (by omega))
  clear hx hC hr
  have e0 : (0 : Int) ≤ (l.length : Int) + 1 := by omega
  have hstart : ∀ n : Nat, Aside0 (RW (w.drewN n) b0 (.slice (some ⟨g, 0, none⟩) (l.length + 1) (l.length + 1)) (fill (markS (-78)) 0 (l ++ [markS (-77)])) ∧ w.grownBy (w.drewN n) (some g)) := fun n => ⟨by rw [fill_zero]; exact Kd.R_drewN HX.out n, grown_drewN w n _⟩
  have HST := Lib.hid hstart
  clear hstart
  go_enter Tryd.func16, Tryd.ntmps16
  go_wp2_with (go_at_call 26; (with_reducible refine (vesperref07_Same.calls (l.length + 1) _ _ l A c l true _ HC.out (Nat.le_succ _) HR.out hc HS.out).mono ?_); rintro e w1 ⟨rfl, ⟨⟨n1, rfl⟩⟩⟩)
  go_loopw [7] (fun i wr => ∃ k : Nat, k ≤ l.length + 1 ∧ i = .int .i64 k ∧ Aside0 (RW wr b0 (.slice (some ⟨g, 0, none⟩) (l.length + 1) (l.length + 1)) (fill (markS (-78)) k (l ++ [markS (-77)])) ∧ w.grownBy wr (some g))) (fun i _ => l.length + 1 - (RowKit.intOf i).toNat)
  case atStart => exact ⟨0, Nat.zero_le _, rfl, HST.out _⟩
  case round =>
    obtain ⟨k, hk, rfl, HP⟩ := hrel
    by_cases hlt : k < l.length + 1
    · obtain ⟨⟨u0, q0⟩, ⟨u1, q1⟩, ⟨u2, q2⟩, ⟨u3, q3⟩, ⟨u4, q4⟩, ⟨u5, q5⟩, ⟨u6, q6⟩, ⟨u7, q7⟩, ⟨u8, q8⟩, ⟨u9, q9⟩, f0, f1, f2, f3, f4, f5, f6, f7, f8, f9, hS, hG⟩ := elem34 HP.out.1 k hlt (markS (-78))
      rw [fill_set _ _ _ (by simp; omega)] at hS
      have HN := Aside0.mk (And.intro hS (HP.out.2.trans hG))
      clear hS hG HP
      have i0 : (k : Int) < ((l.length + 1 : Nat) : Int) := by omega
      go_wp2
      go_roundw
      case rel => exact ⟨k + 1, by omega, by go_num, HN⟩
      case measure => simp [RowKit.intOf]; omega
    · obtain rfl : k = l.length + 1 := by omega
      go_wp2
      go_ret
      exact ⟨rfl, HP.out.2⟩
theorem lent_C {w : World} {b g : Nat} {l : List S34} (h : RW w b (.slice (some ⟨g, 0, none⟩) (l.length + 1) (l.length + 1)) (l ++ [markS (-77)])) : Kd.C k34 w (some ⟨g, 0, none⟩) l.length l := by
  have := (Kd.R_reads' (Kd.R_take h (m := l.length) (by simp))).2.2
  simpa using this

end Go.Proofs.YtdjffafcmomalaaDoor.Lent
