/- vesperref07.Normal: what it tells, plain: what Normal tells. -/
import Derived.Test.YtdjffafcmomalaaDoorScrNormP
import Derived.Test.YtdjffafcmomalaaDoorPScrx11
set_option linter.unusedVariables false
set_option linter.unusedSimpArgs false
namespace Go.Proofs.YtdjffafcmomalaaDoor.Scr
open Go Go.RowKit
open Go.Proofs.YtdjffafcmomalaaDoorW.PrintWords Go.Proofs.YtdjffafcmomalaaDoor.PScr

theorem alike_f (a b : S34) : vesperref07_Alike.f a.f0 a.f1 a.f2 a.f3 a.f4 a.f5 a.f6 a.f7 a.f8 a.f9 b.f0 b.f1 b.f2 b.f3 b.f4 b.f5 b.f6 b.f7 b.f8 b.f9 = some (alike a b) := rfl
theorem cyc_one (s : S34) (n : Int) : cyc [withC s n] = List.replicate n.toNat (withC s 0) := by
  show List.replicate n.toNat (withC s 0) ++ [] = _
  rw [List.append_nil]
/-- The chunks of a run. -/
theorem rnorm_l2 (L : List S34) (s : S34) (i : Nat) (hi : i < L.length) (hs : rd_T34 L (i : Int) = s) (x8 : Int) : ∀ (m : Nat) (X : List S34) (n : Int), n.toNat ≤ m → 0 ≤ n → (X.length : Int) + n ≤ 1000000000000 → Nrm X →
    (0 < n → ∀ t, X.getLast? = some t → withC t 0 = withC s 0 → t.f0 = 1048576) →
    ∃ (c : Nat) (X' : List S34), (c : Int) * 1048576 < n + 1048576 ∧ (∀ k, vesperref07_Normal.l2 (k + c + 1) L X (i : Int) n x8 = vesperref07_Normal.l0 k L X' x8) ∧ Nrm X' ∧ cyc X' = cyc X ++ List.replicate n.toNat (withC s 0) ∧ (0 < n → ∀ t, X'.getLast? = some t → withC t 0 = withC s 0) := by
  intro m
  induction m with
  | zero =>
    intro X n hm h0 hb hX hl
    obtain rfl : n = 0 := by omega
    refine ⟨0, X, by omega, fun k => ?_, hX, by simp, fun h => by omega⟩
    rw [vesperref07_Normal.l2, if_neg (by decide)]
  | succ m ih =>
    intro X n hm h0 hb hX hl
    by_cases hn : n > 0
    · obtain ⟨f, hf⟩ : ∃ f, min n 1048576 = f := ⟨_, rfl⟩
      have ho : okC (withC s f) = true := okC_yes (by show ¬ f < 1; omega) (by show ¬ f > 1048576; omega)
      obtain ⟨c, X', h1, h2, h3, h4, h5⟩ := ih (X ++ [withC s f]) (n - f) (by omega) (by omega) (by simp; omega) (Nrm.snoc X _ hX ho (fun t ht he => hl hn t ht he)) (fun h t ht _ => by
        rw [List.getLast?_append] at ht
        simp at ht
        subst ht
        show f = 1048576
        omega)
      refine ⟨c + 1, X', by omega, fun k => ?_, h3, ?_, fun _ t ht => ?_⟩
      · rw [show k + (c + 1) + 1 = (k + c + 1) + 1 by omega, vesperref07_Normal.l2, if_pos hn, if_pos (by omega), if_pos (by omega), if_pos (by omega), hs, mn_eq, hf, w64 (by omega) (by omega)]
        exact h2 k
      · rw [h4, cyc_append, cyc_one, List.append_assoc, List.replicate_append_replicate]
        congr 2; omega
      · by_cases hz : 0 < n - f
        · exact h5 hz t ht
        · have hz' : n - f = 0 := by omega
          rw [hz'] at h2 h4
          have e := h2 0
          rw [show 0 + c + 1 = c + 1 by omega, vesperref07_Normal.l2, if_neg (by decide)] at e
          have hX' : X' = X ++ [withC s f] := by
            refine Nrm.unique _ _ h3 (Nrm.snoc X _ hX ho (fun t ht he => hl hn t ht he)) ?_
            rw [h4]; simp
          rw [hX', List.getLast?_append] at ht
          simp at ht
          subst ht
          rfl
    · obtain rfl : n = 0 := by omega
      refine ⟨0, X, by omega, fun k => ?_, hX, by simp, fun h => by omega⟩
      rw [vesperref07_Normal.l2, if_neg (by decide)]
/-- A run: the spans alike from i on. -/
theorem rnorm_l1 (L : List S34) (X : List S34) (i : Nat) (hi : i < L.length) (s : S34) (hs : rd_T34 L (i : Int) = s) (hL : L.length ≤ 4096) : ∀ (d p : List S34) (n : Int), L = p ++ d → d.all okC = true → 0 ≤ n → n ≤ p.length * 1048576 →
    ∃ (r e : List S34), d = r ++ e ∧ (∀ k, vesperref07_Normal.l1 (k + r.length + 1) L X (i : Int) n (p.length : Int) = vesperref07_Normal.j2 k L X (i : Int) (n + sumC r) ((p.length + r.length : Nat) : Int)) ∧ cyc r = List.replicate (sumC r).toNat (withC s 0) ∧ (∀ t, e.head? = some t → withC s 0 ≠ withC t 0) ∧ (alike s (d.headD s) = true → d ≠ [] → r ≠ []) := by
  intro d
  induction d with
  | nil =>
    intro p n hp hd h0 h1
    refine ⟨[], [], rfl, fun k => ?_, by simp [cyc, sumC], fun t ht => by simp at ht, fun _ h => (h rfl).elim⟩
    rw [List.append_nil] at hp
    have hpl : (p.length : Int) = L.length := by rw [hp]
    show vesperref07_Normal.l1 (k + 1) L X (i : Int) n (p.length : Int) = _
    rw [vesperref07_Normal.l1, if_neg (by omega), sumC_nil, Int.add_zero]
    rfl
  | cons t d ih =>
    intro p n hp hd h0 h1
    rw [List.all_cons, Bool.and_eq_true] at hd
    have ht := okC_pos hd.1
    have hlen : p.length + (d.length + 1) = L.length := by rw [hp]; simp
    have hrd : rd_T34 L (p.length : Int) = t := by rw [hp]; exact rd_at p t d
    have step : ∀ k, vesperref07_Normal.l1 (k + 1) L X (i : Int) n (p.length : Int) = if alike s t = true then vesperref07_Normal.l1 k L X (i : Int) (n + t.f0) ((p.length : Int) + 1) else vesperref07_Normal.j2 k L X (i : Int) n (p.length : Int) := by
      intro k
      rw [vesperref07_Normal.l1, if_pos (by omega), if_pos (by omega), if_pos (by omega), if_pos (by omega), hs, hrd, alike_f, Option.bind_some, w64 (by omega) (by omega), w64 (by omega) (by omega)]
    by_cases c : alike s t = true
    · obtain ⟨r, e, h2, h3, h4, h5, h6⟩ := ih (p ++ [t]) (n + t.f0) (by rw [hp]; simp) hd.2 (by omega) (by simp; omega)
      rw [show ((p ++ [t]).length : Int) = (p.length : Int) + 1 by simp] at h3
      have hq := (alike_iff s t).1 c
      have hsn : 0 ≤ sumC r := by
        have hr : r.all okC = true := by
          have := hd.2
          rw [h2, List.all_append, Bool.and_eq_true] at this
          exact this.1
        have := sumC_bounds r hr
        omega
      refine ⟨t :: r, e, by rw [h2]; rfl, fun k => ?_, ?_, h5, fun _ _ => by simp⟩
      · have := h3 k
        rw [show k + (t :: r).length + 1 = (k + r.length + 1) + 1 by simp; omega, step, if_pos c, this, sumC_cons]
        rw [show n + t.f0 + sumC r = n + (t.f0 + sumC r) by omega]
        congr 1
        simp; omega
      · rw [cyc, h4, sumC_cons, ← hq, List.replicate_append_replicate]
        congr 1; omega
    · refine ⟨[], t :: d, rfl, fun k => ?_, by simp [cyc, sumC], fun u hu => ?_, fun hc _ => (c hc).elim⟩
      · show vesperref07_Normal.l1 (k + 1) L X (i : Int) n (p.length : Int) = _
        rw [step, if_neg c, sumC_nil, Int.add_zero]
        rfl
      · simp only [List.head?_cons, Option.some.injEq] at hu
        subst hu
        exact fun x => c ((alike_iff s t).2 x)
theorem rnorm_l0 (L : List S34) (hL : L.length ≤ 4096) (hsum : sumC L ≤ 4194304) (hall : L.all okC = true) : ∀ (m : Nat) (d p X : List S34) (k : Nat), d.length ≤ m → 6 * d.length + 1 ≤ k → L = p ++ d → Nrm X → cyc X = cyc p →
    (∀ t s, X.getLast? = some t → d.head? = some s → withC t 0 ≠ withC s 0) → ∃ X', vesperref07_Normal.l0 k L X (p.length : Int) = some (X', 0) ∧ Nrm X' ∧ cyc X' = cyc L := by
  intro m
  induction m with
  | zero =>
    intro d p X k hm hk hp hX hc hj
    obtain rfl : d = [] := List.length_eq_zero_iff.1 (by omega)
    obtain ⟨k, rfl⟩ : ∃ j, k = j + 1 := ⟨k - 1, by omega⟩
    rw [List.append_nil] at hp
    subst hp
    exact ⟨X, by rw [vesperref07_Normal.l0, if_neg (by omega)], hX, hc⟩
  | succ m ih =>
    intro d p X k hm hk hp hX hc hj
    cases d with
    | nil =>
      obtain ⟨k, rfl⟩ : ∃ j, k = j + 1 := ⟨k - 1, by simp at hk; omega⟩
      rw [List.append_nil] at hp
      subst hp
      exact ⟨X, by rw [vesperref07_Normal.l0, if_neg (by omega)], hX, hc⟩
    | cons s d =>
      have hlen : p.length + (d.length + 1) = L.length := by rw [hp]; simp
      have hrd : rd_T34 L (p.length : Int) = s := by rw [hp]; exact rd_at p s d
      have hsd : (s :: d).all okC = true := by
        rw [hp, List.all_append, Bool.and_eq_true] at hall
        exact hall.2
      obtain ⟨r, e, h2, h3, h4, h5, h6⟩ := rnorm_l1 L X p.length (by omega) s hrd hL (s :: d) p 0 hp hsd (Int.le_refl _) (by omega)
      have hrne : r ≠ [] := h6 ((alike_iff s s).2 rfl) (by simp)
      have hrl : 0 < r.length := List.length_pos_iff.2 hrne
      have hra : r.all okC = true := by
        rw [h2, List.all_append, Bool.and_eq_true] at hsd
        exact hsd.1
      have hrb := sumC_bounds r hra
      have hlr : r.length + e.length = d.length + 1 := by
        have := congrArg List.length h2
        simp at this; omega
      have hXl : (X.length : Int) ≤ 4294967296 := by
        have b1 := sumC_bounds X hX.all
        have b2 := cyc_len X hX.all
        have hpa : p.all okC = true := by
          rw [hp, List.all_append, Bool.and_eq_true] at hall
          exact hall.1
        have b3 := cyc_len p hpa
        have b4 := sumC_bounds p hpa
        rw [hc] at b2
        omega
      obtain ⟨c, X', g1, g2, g3, g4, g5⟩ := rnorm_l2 L s p.length (by omega) hrd ((p.length + r.length : Nat) : Int) (sumC r).toNat X (sumC r) (Nat.le_refl _) (by omega) (by omega) hX (fun _ t ht he => (hj t s ht rfl he).elim)
      have hcr : c ≤ r.length := by omega
      simp only [List.length_cons] at hk hm
      obtain ⟨k, rfl⟩ : ∃ j, k = (((j + c + 1) + 1) + r.length + 1) + 1 := ⟨k - (c + r.length + 4), by omega⟩
      have e1 : vesperref07_Normal.l0 ((((k + c + 1) + 1) + r.length + 1) + 1) L X (p.length : Int) = vesperref07_Normal.l0 k L X' ((p.length + r.length : Nat) : Int) := by
        rw [vesperref07_Normal.l0, if_pos (by omega), h3, vesperref07_Normal.j2, Int.zero_add, g2]
      have hp' : L = (p ++ r) ++ e := by rw [hp, h2, List.append_assoc]
      have := ih e (p ++ r) X' k (by omega) (by omega) hp' g3 (by rw [g4, hc, cyc_append, h4]) (fun t u ht hu => by
        rw [g5 (by omega) t ht]
        exact h5 u hu)
      rw [e1]
      rw [show ((p ++ r).length : Int) = ((p.length + r.length : Nat) : Int) by simp] at this
      exact this
theorem rnormal_ok (l : List S34) (h : (cyclesR l).2 = 0) (k : Nat) (hk : 50000 ≤ k) : ∃ r, vesperref07_Normal.f k l = some (r, 0) ∧ Nrm r ∧ cyc r = cyc l := by
  obtain ⟨h1, h2, h3, h4⟩ := cyclesR_ok h
  obtain ⟨r, e, h5⟩ := rnorm_l0 l h1 h3 h2 l.length l [] [] k (Nat.le_refl _) (by omega) rfl trivial rfl (fun t s ht => by simp at ht)
  refine ⟨r, ?_, h5⟩
  unfold vesperref07_Normal.f
  rw [rcheck_f k l (by omega), Option.bind_some, h, if_pos rfl]
  exact e
/-- Both Normals tell the same. -/
theorem normals (l : List S34) : ∃ r x, script_Normal.f 100000 l = some (r, x) ∧ vesperref07_Normal.f 100000 l = some (r, x) ∧ r.length ≤ 4096 := by
  by_cases h : (cyclesR l).2 = 0
  · obtain ⟨r, e, g1, g2, g3⟩ := normal_ok l h 100000 (by decide)
    obtain ⟨r', e', g1', g2'⟩ := rnormal_ok l h 100000 (by decide)
    have : r' = r := Nrm.unique r' r g1' g1 (g2'.trans g2.symm)
    subst this
    exact ⟨r', 0, e, e', by have := (cyclesR_ok h).1; omega⟩
  · refine ⟨[], (cyclesR l).2, normal_bad l h 100000 (by decide), ?_, by simp⟩
    unfold vesperref07_Normal.f
    rw [rcheck_f 100000 l (by decide), Option.bind_some, if_neg h]
end Go.Proofs.YtdjffafcmomalaaDoor.Scr
