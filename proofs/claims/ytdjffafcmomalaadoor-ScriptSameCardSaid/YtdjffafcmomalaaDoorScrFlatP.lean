/- vesperlaw07.flat: what it tells, plain: whether two scripts go through the same cycles. Conditions: spans of 1 to 1048576 cycles; sizes. -/
import Derived.Test.YtdjffafcmomalaaDoorScrCyc
import Derived.Test.YtdjffafcmomalaaDoorPScrx13
set_option linter.unusedVariables false
set_option linter.unusedSimpArgs false
namespace Go.Proofs.YtdjffafcmomalaaDoor.Scr
open Go Go.RowKit
open Go.Proofs.YtdjffafcmomalaaDoorW.PrintWords Go.Proofs.YtdjffafcmomalaaDoor.PScr

def unlike (t s : S34) : Bool := !(t.f1 == s.f1) || (!(t.f2 == s.f2) || (!(t.f3 == s.f3) || (!(t.f4 == s.f4) || (!(t.f5 == s.f5) || (!(t.f6 == s.f6) || (!(t.f7 == s.f7) || (!(t.f8 == s.f8) || !(t.f9 == s.f9))))))))
theorem unlike_iff (t s : S34) : unlike t s = true ↔ ¬ withC t 0 = withC s 0 := by
  have h : unlike t s = !(alike t s) := by unfold unlike alike; simp only [Bool.not_and]
  rw [h, Bool.not_eq_true', ← Bool.not_eq_true, alike_iff]
/-- The cycles that are left, where the first span has used u. -/
def cycU : List S34 → Int → List S34
  | [], _ => []
  | s :: d, u => cyc (withC s (s.f0 - u) :: d)
theorem cycU_zero (d : List S34) : cycU d 0 = cyc d := by
  cases d with
  | nil => rfl
  | cons s d => show cyc (withC s (s.f0 - 0) :: d) = _; rw [Int.sub_zero, withC_same]
theorem cyc_split (s : S34) (d : List S34) (a b : Int) (ha : 0 ≤ a) (hb : 0 ≤ b) : cyc (withC s (a + b) :: d) = List.replicate a.toNat (withC s 0) ++ cyc (withC s b :: d) := by
  show List.replicate (a + b).toNat (withC s 0) ++ cyc d = List.replicate a.toNat (withC s 0) ++ (List.replicate b.toNat (withC s 0) ++ cyc d)
  rw [← List.append_assoc, List.replicate_append_replicate]
  congr 2; omega
/-- What is left behind n cycles more. -/
def nextU (s : S34) (d : List S34) (u : Int) : List S34 × Int := if u = s.f0 then (d, 0) else (s :: d, u)
theorem nextU_cyc (s : S34) (d : List S34) (u n : Int) (h0 : 0 ≤ n) (h1 : u + n ≤ s.f0) : cycU (s :: d) u = List.replicate n.toNat (withC s 0) ++ cycU (nextU s d (u + n)).1 (nextU s d (u + n)).2 := by
  unfold nextU
  by_cases c : u + n = s.f0
  · rw [if_pos c, cycU_zero]
    show cyc (withC s (s.f0 - u) :: d) = _
    rw [show s.f0 - u = n + 0 by omega, cyc_split s d n 0 h0 (Int.le_refl _), cyc_zero]
  · rw [if_neg c]
    show cyc (withC s (s.f0 - u) :: d) = _ ++ cyc (withC s (s.f0 - (u + n)) :: d)
    rw [show s.f0 - u = n + (s.f0 - (u + n)) by omega, cyc_split s d n _ h0 (by omega)]
def ValidU (d : List S34) (u : Int) : Prop := d.all okC = true ∧ 0 ≤ u ∧ ∀ s, d.head? = some s → u < s.f0
theorem ValidU.start {d : List S34} (h : d.all okC = true) : ValidU d 0 := ⟨h, Int.le_refl _, fun s hs => by
  cases d with
  | nil => cases hs
  | cons t d =>
    simp only [List.head?_cons, Option.some.injEq] at hs
    subst hs
    rw [List.all_cons, Bool.and_eq_true] at h
    have := okC_pos h.1
    omega⟩
theorem ValidU.next {s : S34} {d : List S34} {u n : Int} (h : ValidU (s :: d) u) (h0 : 0 ≤ n) (h1 : u + n ≤ s.f0) : ValidU (nextU s d (u + n)).1 (nextU s d (u + n)).2 := by
  have hd := h.1
  rw [List.all_cons, Bool.and_eq_true] at hd
  unfold nextU
  by_cases c : u + n = s.f0
  · rw [if_pos c]; exact ValidU.start hd.2
  · rw [if_neg c]
    refine ⟨h.1, by have := h.2.1; show 0 ≤ u + n; omega, fun x hx => ?_⟩
    simp only [List.head?_cons, Option.some.injEq] at hx
    subst hx
    show u + n < s.f0
    omega
theorem nextU_len (s : S34) (d : List S34) (u : Int) : (nextU s d u).1.length = if u = s.f0 then d.length else d.length + 1 := by
  unfold nextU; split <;> rfl
theorem cycU_head {d : List S34} {u : Int} (h : ValidU d u) (e : cycU d u = []) : d = [] := by
  cases d with
  | nil => rfl
  | cons s d =>
    have := h.2.2 s rfl
    have e' : cyc (withC s (s.f0 - u) :: d) = [] := e
    rw [cyc_cons_pos (withC s (s.f0 - u)) d (show 1 ≤ s.f0 - u by omega)] at e'
    cases e'
theorem flat_ends (d e : List S34) (u v : Int) (hd : ValidU d u) (he : ValidU e v) (h : d = [] ∨ e = []) : (decide (d = []) && decide (e = [])) = decide (cycU d u = cycU e v) := by
  rcases h with rfl | rfl
  · by_cases c : e = []
    · subst c; rfl
    · have : ¬ cycU [] u = cycU e v := fun x => c (cycU_head he x.symm)
      rw [decide_eq_false this, decide_eq_false c, Bool.and_false]
  · by_cases c : d = []
    · subst c; rfl
    · have : ¬ cycU d u = cycU [] v := fun x => c (cycU_head hd x)
      rw [decide_eq_false this, decide_eq_false c, Bool.false_and]

theorem flat_l0 (a b : List S34) (hla : a.length ≤ 10000) (hlb : b.length ≤ 10000) : ∀ (m : Nat) (d e p q : List S34) (u v : Int) (k : Nat), d.length + e.length ≤ m → 3 * m + 3 ≤ k → a = p ++ d → b = q ++ e → ValidU d u → ValidU e v →
    vesperlaw07_flat.l0 k a b (p.length : Int) (q.length : Int) u v = some (decide (cycU d u = cycU e v)) := by
  intro m
  induction m with
  | zero =>
    intro d e p q u v k hm hk ha hb hd he
    obtain rfl : d = [] := List.length_eq_zero_iff.1 (by omega)
    obtain rfl : e = [] := List.length_eq_zero_iff.1 (by omega)
    obtain ⟨k, rfl⟩ : ∃ j, k = j + 2 := ⟨k - 2, by omega⟩
    rw [List.append_nil] at ha hb
    subst ha hb
    rw [vesperlaw07_flat.l0, if_neg (by omega), vesperlaw07_flat.j1, if_neg (by decide), if_pos rfl]
    simp [cycU]
  | succ m ih =>
    intro d e p q u v k hm hk ha hb hd he
    obtain ⟨k, rfl⟩ : ∃ j, k = j + 3 := ⟨k - 3, by omega⟩
    have hal : (a.length : Int) = p.length + d.length := by rw [ha]; simp
    have hbl : (b.length : Int) = q.length + e.length := by rw [hb]; simp
    have hstop : d = [] ∨ e = [] → vesperlaw07_flat.l0 (k + 3) a b (p.length : Int) (q.length : Int) u v = some (decide (cycU d u = cycU e v)) := by
      intro h
      rw [← flat_ends d e u v hd he h]
      have e1 : vesperlaw07_flat.l0 (k + 3) a b (p.length : Int) (q.length : Int) u v = vesperlaw07_flat.j1 (k + 2) a b (p.length : Int) (q.length : Int) u v false := by
        rw [vesperlaw07_flat.l0]
        rcases h with rfl | rfl
        · rw [if_neg (by simp at hal; omega)]
        · split
          · rw [decide_eq_false (by simp at hbl; omega)]
          · rfl
      rw [e1, vesperlaw07_flat.j1, if_neg (by decide)]
      by_cases c : d = []
      · subst c
        rw [if_pos (by simp at hal; omega), decide_eq_true rfl, Bool.true_and]
        congr 1
        by_cases c2 : e = []
        · subst c2
          rw [decide_eq_true rfl]
          simp at hbl
          rw [hbl]; simp
        · rw [decide_eq_false c2]
          have : 0 < e.length := List.length_pos_iff.2 c2
          rw [beq_eq_false_iff_ne]; omega
      · have : 0 < d.length := List.length_pos_iff.2 c
        rw [if_neg (by omega), decide_eq_false c, Bool.false_and]
    cases d with
    | nil => exact hstop (.inl rfl)
    | cons s d =>
      cases e with
      | nil => exact hstop (.inr rfl)
      | cons t e =>
        have hs := okC_pos (by have := hd.1; rw [List.all_cons, Bool.and_eq_true] at this; exact this.1)
        have ht := okC_pos (by have := he.1; rw [List.all_cons, Bool.and_eq_true] at this; exact this.1)
        have hu := hd.2.2 s rfl
        have hv := he.2.2 t rfl
        have hu0 := hd.2.1
        have hv0 := he.2.1
        simp only [List.length_cons] at hal hbl hm
        have ra : rd_T34 a (p.length : Int) = s := by rw [ha]; exact rd_at p s d
        have rb : rd_T34 b (q.length : Int) = t := by rw [hb]; exact rd_at q t e
        obtain ⟨n, hn⟩ : ∃ n, min (s.f0 - u) (t.f0 - v) = n := ⟨_, rfl⟩
        have hn1 : 1 ≤ n := by omega
        have hn2 : u + n ≤ s.f0 := by omega
        have hn3 : v + n ≤ t.f0 := by omega
        have e1 : vesperlaw07_flat.l0 (k + 3) a b (p.length : Int) (q.length : Int) u v = vesperlaw07_flat.j2 (k + 1) a b (p.length : Int) (q.length : Int) u v n (unlike s t) := by
          rw [vesperlaw07_flat.l0, if_pos (by omega), decide_eq_true (by omega), vesperlaw07_flat.j1, if_pos rfl, if_pos (by omega), if_pos (by omega), if_pos (by omega), if_pos (by omega), ra, rb, w64 (by omega) (by omega), w64 (by omega) (by omega), mn_eq, hn, if_neg (by omega)]
          rfl
        rw [e1, vesperlaw07_flat.j2]
        have hcs := nextU_cyc s d u n (by omega) hn2
        have hct := nextU_cyc t e v n (by omega) hn3
        obtain ⟨j, hj⟩ : ∃ j, n.toNat = j + 1 := ⟨n.toNat - 1, by omega⟩
        by_cases c : unlike s t = true
        · rw [if_pos c]
          have hne := (unlike_iff s t).1 c
          have : ¬ cycU (s :: d) u = cycU (t :: e) v := by
            rw [hcs, hct, hj, List.replicate_succ, List.replicate_succ, List.cons_append, List.cons_append]
            exact fun x => hne (List.cons.inj x).1
          rw [decide_eq_false this]
        · rw [if_neg c]
          have heq : withC s 0 = withC t 0 := Decidable.byContradiction fun x => c ((unlike_iff s t).2 x)
          have hdec : decide (cycU (s :: d) u = cycU (t :: e) v) = decide (cycU (nextU s d (u + n)).1 (nextU s d (u + n)).2 = cycU (nextU t e (v + n)).1 (nextU t e (v + n)).2) := by
            rw [hcs, hct, heq]
            exact decide_eq_decide.2 ⟨fun x => List.append_cancel_left x, fun x => by rw [x]⟩
          rw [hdec, if_pos (by omega), if_pos (by omega), ra, w64 (by omega) (by omega), w64 (by omega) (by omega), rb]
          have vs := hd.next (by omega) hn2
          have vt := he.next (by omega) hn3
          have ls := nextU_len s d (u + n)
          have lt := nextU_len t e (v + n)
          have hw1 : wrap64 ((p.length : Int) + 1) = ((p ++ [s]).length : Int) := by rw [w64 (by omega) (by omega)]; simp
          have hw2 : wrap64 ((q.length : Int) + 1) = ((q ++ [t]).length : Int) := by rw [w64 (by omega) (by omega)]; simp
          by_cases cs : u + n = s.f0
          · rw [if_pos cs, if_pos (by omega), if_pos (by omega), hw1]
            rw [if_pos cs] at ls
            by_cases ct : v + n = t.f0
            · rw [if_pos ct, hw2]
              rw [if_pos ct] at lt
              have n1 : nextU s d (u + n) = (d, 0) := by unfold nextU; rw [if_pos cs]
              have n2 : nextU t e (v + n) = (e, 0) := by unfold nextU; rw [if_pos ct]
              rw [n1, n2]
              rw [n1] at vs
              rw [n2] at vt
              exact ih d e (p ++ [s]) (q ++ [t]) 0 0 k (by omega) (by omega) (by rw [ha]; simp) (by rw [hb]; simp) vs vt
            · rw [if_neg ct]
              rw [if_neg ct] at lt
              have n1 : nextU s d (u + n) = (d, 0) := by unfold nextU; rw [if_pos cs]
              have n2 : nextU t e (v + n) = (t :: e, v + n) := by unfold nextU; rw [if_neg ct]
              rw [n1, n2]
              rw [n1] at vs
              rw [n2] at vt
              exact ih d (t :: e) (p ++ [s]) q 0 (v + n) k (by simp; omega) (by omega) (by rw [ha]; simp) hb vs vt
          · have ct : v + n = t.f0 := by omega
            rw [if_neg cs, if_pos (by omega), if_pos (by omega), if_pos ct, hw2]
            have n1 : nextU s d (u + n) = (s :: d, u + n) := by unfold nextU; rw [if_neg cs]
            have n2 : nextU t e (v + n) = (e, 0) := by unfold nextU; rw [if_pos ct]
            rw [n1, n2]
            rw [n1] at vs
            rw [n2] at vt
            exact ih (s :: d) e p (q ++ [t]) (u + n) 0 k (by simp; omega) (by omega) ha (by rw [hb]; simp) vs vt
theorem flat_f (a b : List S34) (ha : a.all okC = true) (hb : b.all okC = true) (hla : a.length ≤ 10000) (hlb : b.length ≤ 10000) (k : Nat) (hk : 70000 ≤ k) : vesperlaw07_flat.f k a b = some (decide (cyc a = cyc b)) := by
  have := flat_l0 a b hla hlb (a.length + b.length) a b [] [] 0 0 k (Nat.le_refl _) (by omega) rfl rfl (ValidU.start ha) (ValidU.start hb)
  rw [cycU_zero, cycU_zero] at this
  exact this
end Go.Proofs.YtdjffafcmomalaaDoor.Scr
