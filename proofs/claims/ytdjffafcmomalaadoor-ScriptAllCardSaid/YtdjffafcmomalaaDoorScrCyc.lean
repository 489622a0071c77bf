/- The cycles that a script goes through; scripts of as few spans as may be: there is one for each row of cycles. Plain. -/
import Derived.Test.YtdjffafcmomalaaDoorScrM5
set_option linter.unusedVariables false
set_option linter.unusedSimpArgs false
namespace Go.Proofs.YtdjffafcmomalaaDoor.Scr
open Go Go.RowKit
open Go.Proofs.YtdjffafcmomalaaDoorW.PrintWords Go.Proofs.YtdjffafcmomalaaDoor.PScr

def withC (s : S34) (n : Int) : S34 := { s with f0 := n }
theorem withC_same (s : S34) : withC s s.f0 = s := rfl
theorem withC_with (s : S34) (a b : Int) : withC (withC s a) b = withC s b := rfl
theorem withC_eq {s t : S34} (h : withC s 0 = withC t 0) (n : Int) : withC s n = withC t n := by
  have := congrArg (fun x => withC x n) h
  exact this
theorem ext_with {s t : S34} (h : withC s 0 = withC t 0) (h0 : s.f0 = t.f0) : s = t := by
  have := withC_eq h s.f0
  rw [withC_same, h0, withC_same] at this
  exact this
instance : DecidableEq S34 := fun a b => decidable_of_iff (eqb a b = true) (eqb_iff a b)
def alike (t s : S34) : Bool := t.f1 == s.f1 && (t.f2 == s.f2 && (t.f3 == s.f3 && (t.f4 == s.f4 && (t.f5 == s.f5 && (t.f6 == s.f6 && (t.f7 == s.f7 && (t.f8 == s.f8 && t.f9 == s.f9)))))))
theorem alike_iff (t s : S34) : alike t s = true ↔ withC t 0 = withC s 0 := by
  obtain ⟨a0, a1, a2, a3, a4, a5, a6, a7, a8, a9⟩ := t
  obtain ⟨b0, b1, b2, b3, b4, b5, b6, b7, b8, b9⟩ := s
  simp [alike, withC]
theorem mn_eq (a b : Int) : mn a b = min a b := by unfold mn; omega
/-- The cycles, one by one. -/
def cyc : List S34 → List S34
  | [] => []
  | s :: l => List.replicate s.f0.toNat (withC s 0) ++ cyc l
theorem cyc_append : ∀ (a b : List S34), cyc (a ++ b) = cyc a ++ cyc b
  | [], b => rfl
  | s :: a, b => by rw [List.cons_append, cyc, cyc, cyc_append a b, List.append_assoc]
theorem cyc_two (s : S34) (a b : Int) (ha : 0 ≤ a) (hb : 0 ≤ b) : cyc [withC s a, withC s b] = cyc [withC s (a + b)] := by
  show List.replicate a.toNat (withC s 0) ++ (List.replicate b.toNat (withC s 0) ++ []) = List.replicate (a + b).toNat (withC s 0) ++ []
  rw [List.append_nil, List.append_nil, List.replicate_append_replicate]
  congr 1; omega
theorem cyc_zero (s : S34) (l : List S34) : cyc (withC s 0 :: l) = cyc l := by
  show List.replicate (0 : Int).toNat (withC s 0) ++ cyc l = _
  simp
theorem cyc_len : ∀ l : List S34, l.all okC = true → ((cyc l).length : Int) = sumC l
  | [], _ => by rw [sumC_nil]; rfl
  | s :: l, h => by
    simp only [List.all_cons, Bool.and_eq_true, okC, decide_eq_true_eq] at h
    have := cyc_len l h.2
    rw [cyc, List.length_append, List.length_replicate, sumC_cons]
    omega
/-- As few spans as may be: a span that is followed by one alike is full. -/
def Nrm : List S34 → Prop
  | [] => True
  | [s] => okC s = true
  | s :: t :: l => okC s = true ∧ (withC s 0 = withC t 0 → s.f0 = 1048576) ∧ Nrm (t :: l)
theorem Nrm.head {s : S34} {l : List S34} (h : Nrm (s :: l)) : okC s = true := by
  cases l with
  | nil => exact h
  | cons t l => exact h.1
theorem Nrm.tail {s : S34} {l : List S34} (h : Nrm (s :: l)) : Nrm l := by
  cases l with
  | nil => trivial
  | cons t l => exact h.2.2
theorem Nrm.all {l : List S34} (h : Nrm l) : l.all okC = true := by
  induction l with
  | nil => rfl
  | cons s l ih => rw [List.all_cons, h.head, ih h.tail]; rfl
theorem okC_pos {s : S34} (h : okC s = true) : 1 ≤ s.f0 ∧ s.f0 ≤ 1048576 := by
  simpa only [okC, Bool.and_eq_true, decide_eq_true_eq] using h
theorem cyc_cons_pos (s : S34) (l : List S34) (h : 1 ≤ s.f0) : cyc (s :: l) = withC s 0 :: cyc (withC s (s.f0 - 1) :: l) := by
  show List.replicate s.f0.toNat (withC s 0) ++ cyc l = withC s 0 :: (List.replicate (s.f0 - 1).toNat (withC s 0) ++ cyc l)
  rw [show s.f0.toNat = (s.f0 - 1).toNat + 1 by omega, List.replicate_succ]
  rfl
theorem cyc_nil_of {l : List S34} (h : l.all okC = true) (e : cyc l = []) : l = [] := by
  cases l with
  | nil => rfl
  | cons s l =>
    rw [List.all_cons, Bool.and_eq_true] at h
    rw [cyc_cons_pos s l (okC_pos h.1).1] at e
    cases e
/-- What stands ahead: a span's first n cycles, then x. -/
theorem rep_ahead (a b : Nat) (p q : S34) (x y : List S34) (e : List.replicate a p ++ x = List.replicate b q ++ y) (ha : 1 ≤ a) (hab : a ≤ b) : p = q ∧ x = List.replicate (b - a) q ++ y := by
  obtain ⟨a, rfl⟩ : ∃ k, a = k + 1 := ⟨a - 1, by omega⟩
  obtain ⟨b, rfl⟩ : ∃ k, b = k + 1 := ⟨b - 1, by omega⟩
  have hpq : p = q := by
    rw [List.replicate_succ, List.replicate_succ, List.cons_append, List.cons_append] at e
    exact (List.cons.inj e).1
  subst hpq
  refine ⟨rfl, ?_⟩
  have e2 : List.replicate (b + 1) p = List.replicate (a + 1) p ++ List.replicate (b - a) p := by
    rw [List.replicate_append_replicate]; congr 1; omega
  rw [e2, List.append_assoc] at e
  rw [show b + 1 - (a + 1) = b - a by omega]
  exact List.append_cancel_left e
theorem Nrm.shorter {s t : S34} {l m : List S34} (h : Nrm (s :: l)) (h' : Nrm (t :: m)) (e : cyc (s :: l) = cyc (t :: m)) : ¬ s.f0 < t.f0 := by
  intro hlt
  have hs := okC_pos h.head
  have ht := okC_pos h'.head
  have e' : List.replicate s.f0.toNat (withC s 0) ++ cyc l = List.replicate t.f0.toNat (withC t 0) ++ cyc m := e
  obtain ⟨hp, hx⟩ := rep_ahead _ _ _ _ _ _ e' (by omega) (by omega)
  obtain ⟨j, hj⟩ : ∃ j, t.f0.toNat - s.f0.toNat = j + 1 := ⟨t.f0.toNat - s.f0.toNat - 1, by omega⟩
  rw [hj, List.replicate_succ, List.cons_append] at hx
  cases l with
  | nil => cases hx
  | cons u l =>
    rw [cyc_cons_pos u l (okC_pos h.tail.head).1] at hx
    have hu := (List.cons.inj hx).1
    have := h.2.1 (hp.trans hu.symm)
    omega
/-- There is but one such script for a row of cycles. -/
theorem Nrm.unique : ∀ (l m : List S34), Nrm l → Nrm m → cyc l = cyc m → l = m
  | [], m, _, hm, e => (cyc_nil_of hm.all e.symm).symm
  | s :: l, [], hl, _, e => cyc_nil_of hl.all e
  | s :: l, t :: m, hl, hm, e => by
    have h1 := hl.shorter hm e
    have h2 := hm.shorter hl e.symm
    have hs := okC_pos hl.head
    have e' : List.replicate s.f0.toNat (withC s 0) ++ cyc l = List.replicate t.f0.toNat (withC t 0) ++ cyc m := e
    have h0 : s.f0 = t.f0 := by omega
    obtain ⟨hp, hx⟩ := rep_ahead _ _ _ _ _ _ e' (by omega) (by omega)
    rw [show t.f0.toNat - s.f0.toNat = 0 by omega, List.replicate_zero, List.nil_append] at hx
    rw [ext_with hp h0, Nrm.unique l m hl.tail hm.tail hx]
/-- One more span behind. -/
theorem Nrm.snoc : ∀ (l : List S34) (s : S34), Nrm l → okC s = true → (∀ t, l.getLast? = some t → withC t 0 = withC s 0 → t.f0 = 1048576) → Nrm (l ++ [s])
  | [], s, _, hs, _ => hs
  | [t], s, ht, hs, h => ⟨ht, h t rfl, hs⟩
  | t :: u :: l, s, ht, hs, h => ⟨ht.1, ht.2.1, Nrm.snoc (u :: l) s ht.2.2 hs (fun x hx => h x (by rw [List.getLast?_cons_cons]; exact hx))⟩
/-- The last span anew, alike, of more cycles. -/
theorem Nrm.last : ∀ (l : List S34) (s t : S34), Nrm (l ++ [s]) → okC t = true → withC s 0 = withC t 0 → Nrm (l ++ [t])
  | [], s, t, _, ht, _ => ht
  | [u], s, t, h, ht, e => ⟨h.1, fun hu => h.2.1 (hu.trans e.symm), ht⟩
  | u :: v :: l, s, t, h, ht, e => ⟨h.1, h.2.1, Nrm.last (v :: l) s t h.2.2 ht e⟩
theorem Nrm.append : ∀ (l m : List S34), Nrm l → Nrm m → (∀ s t, l.getLast? = some s → m.head? = some t → withC s 0 = withC t 0 → s.f0 = 1048576) → Nrm (l ++ m)
  | [], m, _, hm, _ => hm
  | [s], [], hs, _, _ => hs
  | [s], t :: m, hs, hm, h => ⟨hs, h s t rfl rfl, hm⟩
  | s :: u :: l, m, hs, hm, h => ⟨hs.1, hs.2.1, Nrm.append (u :: l) m hs.2.2 hm (fun x y hx hy => h x y (by rw [List.getLast?_cons_cons]; exact hx) hy)⟩
end Go.Proofs.YtdjffafcmomalaaDoor.Scr
