/- vesperlaw07.own, walked: it answers true, whatever rows of the call's own came out. -/
import Derived.Test.YtdjffafcmomalaaDoorScrOwnL
import Derived.Deep.RegionWith
set_option linter.unusedVariables false
set_option linter.unusedSimpArgs false
namespace Go.Proofs.YtdjffafcmomalaaDoor.Own
open Go Go.RowKit
open Go.Proofs.YtdjffafcmomalaaDoorW.PrintWords Go.Proofs.YtdjffafcmomalaaDoor.PScr Go.Proofs.YtdjffafcmomalaaDoor.Scr Go.Proofs.YtdjffafcmomalaaDoor.Lent
attribute [local go_sem ↓ high] appG_eq

/-- The first loop's state: the family, and what it is held against. -/
structure First (B0 G H : Nat) (vs us : List Value) (Ls : List (List S34)) (w0 w : World) : Prop where
  fam : Fam B0 vs Ls w
  side : Side B0 G vs w0 w
  hblk : w.heap[H]? = some (.cells us.toArray 23 (0, 0))
  reads : ∀ (i : Nat) (u : Value) (l : List S34), us[i]? = some u → Ls[i]? = some l → ∃ A c, u = .slice A l.length c ∧ Kd.C k34 w A l.length l ∧ l.length ≤ c
theorem First.below {B0 G H : Nat} {vs us : List Value} {Ls : List (List S34)} {w0 w w1 : World} (h : First B0 G H vs us Ls w0 w) (hb : Below w.heap.size w w1) : First B0 G H vs us Ls w0 w1 :=
  ⟨h.fam.keep (fun _ _ _ _ hr => RW.below hr hb), h.side.below hb, (hb.block H (Array.getElem?_eq_some_iff.1 h.hblk).1).trans h.hblk, fun i u l hu hl => by
    obtain ⟨A, c, e, hC, hc⟩ := h.reads i u l hu hl
    exact ⟨A, c, e, Kd.C_below hC hb, hc⟩⟩
theorem First.at {B0 G H : Nat} {vs us : List Value} {Ls : List (List S34)} {w0 w : World} (h : First B0 G H vs us Ls w0 w) (hlen : us.length = vs.length) (k : Nat) (hk : k < vs.length) :
    ∃ A1 c1 A2 c2 l, l ∈ Ls ∧ w.cell? ⟨G, k, none⟩ = some (.slice A1 l.length c1) ∧ w.cell? ⟨H, k, none⟩ = some (.slice A2 l.length c2) ∧ Kd.C k34 w A1 l.length l ∧ l.length ≤ c1 ∧ Kd.C k34 w A2 l.length l ∧ l.length ≤ c2 := by
  have hv : vs[k]? = some vs[k] := List.getElem?_eq_getElem hk
  have hu : us[k]? = some (us[k]'(by omega)) := List.getElem?_eq_getElem (by omega)
  obtain ⟨l, hl, hr⟩ := h.fam.at k _ hv
  obtain ⟨A2, c2, e2, hC2, hc2⟩ := h.reads k _ l hu hl
  obtain ⟨A1, c1, e1⟩ := RW.sl hr
  rw [e1] at hv hr
  rw [e2] at hu
  refine ⟨A1, c1, A2, c2, l, List.mem_of_getElem? hl, h.side.cell k _ hv, ?_, RW.c hr, RW.le hr, hC2, hc2⟩
  refine (blk_cell h.hblk k).trans ?_
  simpa using hu

/-- The rows ahead of k are marked; all are short. -/
def Marked (k : Nat) (Ls : List (List S34)) : Prop := ∀ (j : Nat) (l : List S34), Ls[j]? = some l → (j < k → ∃ n, l = List.replicate n (markS (-1 - (j : Int)))) ∧ l.length ≤ 100000
structure Second (B0 G : Nat) (vs : List Value) (w0 : World) (k : Nat) (w : World) : Prop where
  ex : ∃ Ls, Fam B0 vs Ls w ∧ Side B0 G vs w0 w ∧ Marked k Ls
/-- Within row k, t spans are written; it has N. -/
structure Second2 (B0 G : Nat) (vs : List Value) (w0 : World) (k N t : Nat) (w : World) : Prop where
  ex : ∃ Ls l, Fam B0 vs Ls w ∧ Side B0 G vs w0 w ∧ Marked k Ls ∧ Ls[k]? = some l ∧ l.length = N ∧ l.take t = List.replicate t (markS (-1 - (k : Int)))
theorem Second.row {B0 G : Nat} {vs : List Value} {w0 : World} {k : Nat} {w : World} (h : Second B0 G vs w0 k w) (hk : k < vs.length) : ∃ A N c, vs[k]? = some (.slice A N c) ∧ N ≤ 100000 ∧ Second2 B0 G vs w0 k N 0 w := by
  obtain ⟨Ls, hf, hs, hm⟩ := h.ex
  have hv : vs[k]? = some vs[k] := List.getElem?_eq_getElem hk
  obtain ⟨l, hl, hr⟩ := hf.at k _ hv
  obtain ⟨A, c, e⟩ := RW.sl hr
  rw [e] at hv
  exact ⟨A, l.length, c, hv, (hm k l hl).2, ⟨Ls, l, hf, hs, hm, hl, rfl, rfl⟩⟩
theorem Second2.cell {B0 G : Nat} {vs : List Value} {w0 : World} {k N t : Nat} {w : World} (h : Second2 B0 G vs w0 k N t w) (v : Value) (hv : vs[k]? = some v) : w.cell? ⟨G, k, none⟩ = some v := by
  obtain ⟨Ls, l, hf, hs, _⟩ := h.ex
  exact hs.cell k v hv
theorem take_set_rep {l : List S34} {t : Nat} {p : S34} (ht : t < l.length) (h : l.take t = List.replicate t p) : (l.set t p).take (t + 1) = List.replicate (t + 1) p := by
  rw [List.take_succ_eq_append_getElem (by simpa using ht), List.getElem_set_self, List.take_set_of_le (Nat.le_refl _), h, List.replicate_succ']
theorem Second2.step {B0 G : Nat} {vs : List Value} {w0 : World} {k N t : Nat} {w : World} (h : Second2 B0 G vs w0 k N t w) {A : Option Addr} {c : Nat} (hv : vs[k]? = some (.slice A N c)) (ht : t < N) :
    ∃ g, A = some ⟨g, 0, none⟩ ∧
      ((∃ u, w.cell? ⟨g, t * 10, none⟩ = some (.int .i64 u)) ∧ (∃ u, w.cell? ⟨g, t * 10 + 1, none⟩ = some (.int .u16 u)) ∧ (∃ u, w.cell? ⟨g, t * 10 + 2, none⟩ = some (.bool u)) ∧ (∃ u, w.cell? ⟨g, t * 10 + 3, none⟩ = some (.bool u)) ∧ (∃ u, w.cell? ⟨g, t * 10 + 4, none⟩ = some (.bool u)) ∧ (∃ u, w.cell? ⟨g, t * 10 + 5, none⟩ = some (.bool u)) ∧ (∃ u, w.cell? ⟨g, t * 10 + 6, none⟩ = some (.bool u)) ∧ (∃ u, w.cell? ⟨g, t * 10 + 7, none⟩ = some (.bool u)) ∧ (∃ u, w.cell? ⟨g, t * 10 + 8, none⟩ = some (.bool u)) ∧ (∃ u, w.cell? ⟨g, t * 10 + 9, none⟩ = some (.int .u8 u))) ∧
      (w.frozen? ⟨g, t * 10, none⟩ = false ∧ w.frozen? ⟨g, t * 10 + 1, none⟩ = false ∧ w.frozen? ⟨g, t * 10 + 2, none⟩ = false ∧ w.frozen? ⟨g, t * 10 + 3, none⟩ = false ∧ w.frozen? ⟨g, t * 10 + 4, none⟩ = false ∧ w.frozen? ⟨g, t * 10 + 5, none⟩ = false ∧ w.frozen? ⟨g, t * 10 + 6, none⟩ = false ∧ w.frozen? ⟨g, t * 10 + 7, none⟩ = false ∧ w.frozen? ⟨g, t * 10 + 8, none⟩ = false ∧ w.frozen? ⟨g, t * 10 + 9, none⟩ = false) ∧
      Second2 B0 G vs w0 k N (t + 1) ((((((((((w.setCell ⟨g, t * 10, none⟩ (.int .i64 (-1 - (k : Int)))).setCell ⟨g, t * 10 + 1, none⟩ (.int .u16 0)).setCell ⟨g, t * 10 + 2, none⟩ (.bool false)).setCell ⟨g, t * 10 + 3, none⟩ (.bool false)).setCell ⟨g, t * 10 + 4, none⟩ (.bool false)).setCell ⟨g, t * 10 + 5, none⟩ (.bool false)).setCell ⟨g, t * 10 + 6, none⟩ (.bool false)).setCell ⟨g, t * 10 + 7, none⟩ (.bool false)).setCell ⟨g, t * 10 + 8, none⟩ (.bool false)).setCell ⟨g, t * 10 + 9, none⟩ (.int .u8 0)) := by
  obtain ⟨Ls, l, hf, hs, hm, hl, hN, htk⟩ := h.ex
  obtain ⟨g, cap, e, hc, hfz, hF, hS⟩ := store_step hf hs hv hl t (by omega) (markS (-1 - (k : Int)))
  cases e
  refine ⟨g, rfl, hc, hfz, ⟨_, _, hF, hS, ?_, ?_, ?_, take_set_rep (by omega) htk⟩⟩
  · intro j l' hj
    rw [List.getElem?_set] at hj
    by_cases cj : k = j
    · rw [if_pos cj] at hj
      split at hj
      · cases hj
        exact ⟨fun hlt => by omega, by simpa using (hm k l hl).2⟩
      · cases hj
    · rw [if_neg cj] at hj
      exact hm j l' hj
  · rw [List.getElem?_set_self (List.getElem?_eq_some_iff.1 hl).1]
  · rw [List.length_set]
theorem Second2.ends {B0 G : Nat} {vs : List Value} {w0 : World} {k N : Nat} {w : World} (h : Second2 B0 G vs w0 k N N w) : Second B0 G vs w0 (k + 1) w := by
  obtain ⟨Ls, l, hf, hs, hm, hl, hN, htk⟩ := h.ex
  refine ⟨⟨Ls, hf, hs, fun j l' hj => ⟨fun hlt => ?_, (hm j l' hj).2⟩⟩⟩
  by_cases cj : j = k
  · subst cj
    rw [hl] at hj
    cases hj
    rw [List.take_of_length_le (by omega)] at htk
    exact ⟨N, htk⟩
  · exact (hm j l' hj).1 (by omega)

/-- The third loop's state. -/
structure Third (B0 G : Nat) (vs0 : List Value) (w0 : World) (k : Nat) (v8 : Value) (gs : List Sl) (w : World) : Prop where
  ex : ∃ vs Ls, Fam B0 vs Ls w ∧ Side B0 G vs0 w0 w ∧ (∀ j, k ≤ j → vs[j]? = vs0[j]?) ∧ (∀ (j : Nat) (s : Sl), gs[j]? = some s → vs[j]? = some (encS s)) ∧
    (∀ (j : Nat) (l : List S34), Ls[j]? = some l → ∃ n, l = List.replicate n (markS (-1 - (j : Int))) ∧ n ≤ 100020 ∧ (k ≤ j → n ≤ 100000)) ∧ vs.length = vs0.length
  g8 : RG w B0 v8 gs
  ne8 : v8.ownBlock ≠ some G
  gl : gs.length = k
structure Third2 (B0 G : Nat) (vs0 : List Value) (w0 : World) (k : Nat) (v8 : Value) (gs : List Sl) (N t : Nat) (v10 : Value) (w : World) : Prop where
  ex : ∃ vs Ls, Fam B0 vs Ls w ∧ Side B0 G vs0 w0 w ∧ (∀ j, k < j → vs[j]? = vs0[j]?) ∧ (∀ (j : Nat) (s : Sl), gs[j]? = some s → vs[j]? = some (encS s)) ∧
    (∀ (j : Nat) (l : List S34), Ls[j]? = some l → ∃ n, l = List.replicate n (markS (-1 - (j : Int))) ∧ n ≤ 100020 ∧ (k < j → n ≤ 100000)) ∧ vs.length = vs0.length ∧ vs[k]? = some v10 ∧ Ls[k]? = some (List.replicate (N + t) (markS (-1 - (k : Int))))
  g8 : RG w B0 v8 gs
  ne8 : v8.ownBlock ≠ some G
  gl : gs.length = k
theorem Second.third {B0 G : Nat} {vs : List Value} {w0 : World} {w : World} (h : Second B0 G vs w0 vs.length w) : Third B0 G vs w0 0 (.slice none 0 0) [] w := by
  obtain ⟨Ls, hf, hs, hm⟩ := h.ex
  refine ⟨⟨vs, Ls, hf, hs, fun _ _ => rfl, fun j s hj => by simp at hj, fun j l hj => ?_, rfl⟩, Kd.R_nil _ _ _ _ _, by simp [Value.ownBlock], rfl⟩
  have hlt : j < vs.length := by rw [hf.len]; exact (List.getElem?_eq_some_iff.1 hj).1
  obtain ⟨n, hn⟩ := (hm j l hj).1 hlt
  have := (hm j l hj).2
  rw [hn, List.length_replicate] at this
  exact ⟨n, hn, by omega, fun _ => this⟩
theorem Third.cell {B0 G : Nat} {vs0 : List Value} {w0 : World} {k : Nat} {v8 : Value} {gs : List Sl} {w : World} (h : Third B0 G vs0 w0 k v8 gs w) (hk : k < vs0.length) :
    ∃ v N, w.cell? ⟨G, k, none⟩ = some v ∧ N ≤ 100000 ∧ Third2 B0 G vs0 w0 k v8 gs N 0 v w := by
  obtain ⟨vs, Ls, hf, hs, h1, h2, h3, h4⟩ := h.ex
  have hv : vs0[k]? = some vs0[k] := List.getElem?_eq_getElem hk
  have hv' := (h1 k (Nat.le_refl _)).trans hv
  obtain ⟨l, hl, hr⟩ := hf.at k _ hv'
  obtain ⟨n, e, b1, b2⟩ := h3 k l hl
  subst e
  refine ⟨_, n, hs.cell k _ hv, b2 (Nat.le_refl _), ⟨vs, Ls, hf, hs, fun j hj => h1 j (by omega), h2, fun j l hj => ?_, h4, hv', by simpa using hl⟩, h.g8, h.ne8, h.gl⟩
  obtain ⟨n', e', b1', b2'⟩ := h3 j l hj
  exact ⟨n', e', b1', fun hj => b2' (by omega)⟩
theorem Third2.step {B0 G : Nat} {vs0 : List Value} {w0 : World} {k : Nat} {v8 : Value} {gs : List Sl} {N t : Nat} {v10 : Value} {w : World} (h : Third2 B0 G vs0 w0 k v8 gs N t v10 w) (hN : N ≤ 100000) (ht : t < 20) :
    ∃ v w1, (appG #[23, 23] 23 #[v10, .slice (some ⟨w.heap.size, 0, none⟩) 1 1]).run Tryd.prog (w.alloc (.cells #[.int .i64 (-1 - (k : Int)), .int .u16 0, .bool false, .bool false, .bool false, .bool false, .bool false, .bool false, .bool false, .int .u8 0] 34)) = .ok v w1 ∧
      Third2 B0 G vs0 w0 k v8 gs N (t + 1) v w1 := by
  obtain ⟨vs, Ls, hf, hs, h1, h2, h3, h4, h5, h6⟩ := h.ex
  have hkl : k < vs.length := (List.getElem?_eq_some_iff.1 h5).1
  have hkL : k < Ls.length := (List.getElem?_eq_some_iff.1 h6).1
  obtain ⟨g, cap, w1, hrun, hF, hS, hR⟩ := app_step hf hs h5 h6 (by rw [List.length_replicate]; omega) (markS (-1 - (k : Int))) h.g8
  refine ⟨_, w1, hrun, ⟨_, _, hF, hS, ?_, ?_, ?_, by simpa using h4, by rw [List.getElem?_set_self hkl], ?_⟩, hR, h.ne8, h.gl⟩
  · intro j hj
    rw [List.getElem?_set_ne (by omega)]; exact h1 j hj
  · intro j s hj
    have hlt := (List.getElem?_eq_some_iff.1 hj).1
    rw [h.gl] at hlt
    rw [List.getElem?_set_ne (by omega)]; exact h2 j s hj
  · intro j l hj
    by_cases cj : k = j
    · subst cj
      rw [List.getElem?_set_self hkL] at hj
      cases hj
      exact ⟨N + t + 1, by rw [List.replicate_succ'], by omega, fun h => by omega⟩
    · rw [List.getElem?_set_ne cj] at hj
      exact h3 j l hj
  · rw [List.getElem?_set_self hkL, ← List.replicate_succ']
    rfl
theorem Third2.form {B0 G : Nat} {vs0 : List Value} {w0 : World} {k : Nat} {v8 : Value} {gs : List Sl} {N t : Nat} {v10 : Value} {w : World} (h : Third2 B0 G vs0 w0 k v8 gs N t v10 w) : ∃ A n c, v10 = .slice A n c := by
  obtain ⟨vs, Ls, hf, hs, h1, h2, h3, h4, h5, h6⟩ := h.ex
  obtain ⟨A, c, e⟩ := RW.sl (hf.row k v10 _ h5 h6)
  exact ⟨A, _, c, e⟩
theorem Third2.ends {B0 G : Nat} {vs0 : List Value} {w0 : World} {k : Nat} {v8 : Value} {gs : List Sl} {N : Nat} {A : Option Addr} {n c : Nat} {w : World} (h : Third2 B0 G vs0 w0 k v8 gs N 20 (.slice A n c) w) (hk : k ≤ 1000) :
    ∃ v w1, (appG #[41, 41] 41 #[v8, .slice (some ⟨w.heap.size, 0, none⟩) 1 1]).run Tryd.prog (w.alloc (.cells #[.slice A n c] 23)) = .ok v w1 ∧ Third B0 G vs0 w0 (k + 1) v (gs ++ [⟨A, n, c⟩]) w1 := by
  obtain ⟨vs, Ls, hf, hs, h1, h2, h3, h4, h5, h6⟩ := h.ex
  obtain ⟨g, cap, w1, hrun, hF, hS, hR, hne⟩ := app8_step hf hs h.g8 h.ne8 (by rw [h.gl]; omega) ⟨A, n, c⟩
  refine ⟨_, w1, hrun, ⟨vs, Ls, hF, hS, fun j hj => h1 j (by omega), ?_, ?_, h4⟩, hR, hne, by simp [h.gl]⟩
  · intro j s hj
    rw [List.getElem?_append] at hj
    split at hj
    · exact h2 j s hj
    · rename_i hge
      rw [h.gl] at hge hj
      have hj0 : j - k = 0 := by
        have := (List.getElem?_eq_some_iff.1 hj).1
        simp at this; omega
      have : j = k := by omega
      subst this
      simp at hj
      subst hj
      exact h5
  · intro j l hj
    obtain ⟨n', e', b1', b2'⟩ := h3 j l hj
    exact ⟨n', e', b1', fun hj => b2' (by omega)⟩
/-- What the last loop reads. -/
theorem Third.head {B0 G : Nat} {vs0 : List Value} {w0 : World} {k : Nat} {v8 : Value} {gs : List Sl} {w : World} (h : Third B0 G vs0 w0 k v8 gs w) : ∃ A8 c8, v8 = .slice A8 k c8 := by
  obtain ⟨A, c, e⟩ := Kd.R_slice h.g8
  exact ⟨A, c, by rw [e, h.gl]⟩
theorem Third.elem {B0 G : Nat} {vs0 : List Value} {w0 : World} {k : Nat} {A8 : Option Addr} {c8 : Nat} {gs : List Sl} {w : World} (h : Third B0 G vs0 w0 k (.slice A8 k c8) gs w) (i : Nat) (hi : i < k) :
    ∃ g8 A n c, A8 = some ⟨g8, 0, none⟩ ∧ n ≤ 100020 ∧ w.cell? ⟨g8, i, none⟩ = some (.slice A n c) ∧ (∀ t, t < n → ∃ g, A = some ⟨g, 0, none⟩ ∧ w.cell? ⟨g, t * 10, none⟩ = some (.int .i64 (-1 - (i : Int)))) := by
  obtain ⟨vs, Ls, hf, hs, h1, h2, h3, h4⟩ := h.ex
  have hgi : gs[i]? = some (gs[i]'(by rw [h.gl]; exact hi)) := List.getElem?_eq_getElem (by rw [h.gl]; exact hi)
  obtain ⟨⟨A, n, c⟩, hs'⟩ : ∃ s, gs[i]'(by rw [h.gl]; exact hi) = s := ⟨_, rfl⟩
  rw [hs'] at hgi
  have hv := h2 i _ hgi
  obtain ⟨l, hl, hr⟩ := hf.at i _ hv
  obtain ⟨m, e, b1, _⟩ := h3 i l hl
  subst e
  obtain ⟨A', c', e'⟩ := RW.sl hr
  rw [List.length_replicate] at e'
  simp only [encS, Value.slice.injEq] at e'
  obtain ⟨rfl, rfl, rfl⟩ := e'
  obtain ⟨g8, hg8⟩ : ∃ g8, A8 = some ⟨g8, 0, none⟩ := by
    obtain ⟨g, cap, e, _⟩ := Kd.R_form h.g8 (by rw [h.gl]; omega)
    exact ⟨g, by cases e; rfl⟩
  subst hg8
  refine ⟨g8, A, n, c, rfl, b1, ?_, fun t ht => ?_⟩
  · obtain ⟨ad, cs, e, _, hK, hc⟩ := Kd.C_get (Kd.R_reads' h.g8).2.2 (⟨none, 0, 0⟩ : Sl) (i : Int) (by omega) (by rw [h.gl]; omega)
    cases e
    have hrd : gs.getD (i : Int).toNat (⟨none, 0, 0⟩ : Sl) = ⟨A, n, c⟩ := by
      rw [Int.toNat_natCast, List.getD_eq_getElem?_getD, hgi]; rfl
    rw [hrd] at hK
    have hcs : cs = [.slice A n c] := hK
    have := hc 0 (.slice A n c) (by rw [hcs]; rfl)
    simpa [kS, Kd.scalar, add_plain] using this
  · have hr' : RW w B0 (.slice A (List.replicate n (markS (-1 - (i : Int)))).length c) (List.replicate n (markS (-1 - (i : Int)))) := by
      rw [List.length_replicate]; exact hr
    obtain ⟨g, cap, e, _⟩ := RW.form hr' (by rw [List.length_replicate]; omega)
    cases e
    obtain ⟨ad, e, q0, _⟩ := at_T34 (RW.c hr') (t : Int) (by omega) (by rw [List.length_replicate]; omega)
    cases e
    have hrd : rd_T34 (List.replicate n (markS (-1 - (i : Int)))) (t : Int) = markS (-1 - (i : Int)) := by
      unfold rd_T34
      rw [Int.toNat_natCast, List.getD_eq_getElem?_getD, List.getElem?_replicate, if_pos ht]; rfl
    rw [hrd] at q0
    have q2 : w.cell? ((⟨g, 0, none⟩ : Addr).add ((t : Int).toNat * 10)) = some (.int .i64 (-1 - (i : Int))) := q0
    exact ⟨g, rfl, by simpa only [add_plain, Int.toNat_natCast, Nat.zero_add] using q2⟩
theorem Third.bel {B0 G : Nat} {vs0 : List Value} {w0 : World} {k : Nat} {v8 : Value} {gs : List Sl} {w : World} (h : Third B0 G vs0 w0 k v8 gs w) : Below B0 w0 w := by
  obtain ⟨vs, Ls, hf, hs, _⟩ := h.ex
  exact hs.bel
/-! ### A family, row by row -/
def Apart (u v : Value) : Prop := ∀ k, u.ownBlock = some k → some k ≠ v.ownBlock
theorem Apart.symm {u v : Value} (h : Apart u v) : Apart v u := fun k hk e => h k e.symm hk.symm
theorem Fam.nil (B0 : Nat) (w : World) : Fam B0 [] [] w := ⟨fun i v l h _ => by simp at h, fun i j u v _ h _ => by simp at h, rfl⟩
theorem Fam.cons {B0 : Nat} {vs : List Value} {Ls : List (List S34)} {w : World} {v : Value} {l : List S34} (h : Fam B0 vs Ls w) (hr : RW w B0 v l) (ha : ∀ u ∈ vs, Apart u v) : Fam B0 (v :: vs) (l :: Ls) w := by
  refine ⟨fun i v' l' hv hl => ?_, fun i j u u' hij hu hu' => ?_, by simp [h.len]⟩
  · cases i with
    | zero => simp at hv hl; subst hv hl; exact hr
    | succ i => exact h.row i v' l' (by simpa using hv) (by simpa using hl)
  · cases i with
    | zero =>
      cases j with
      | zero => exact (hij rfl).elim
      | succ j =>
        simp at hu hu'
        subst hu
        exact (ha u' (List.mem_of_getElem? hu')).symm
    | succ i =>
      cases j with
      | zero =>
        simp at hu hu'
        subst hu'
        exact ha u (List.mem_of_getElem? hu)
      | succ j => exact h.apart i j u u' (fun e => hij (by omega)) (by simpa using hu) (by simpa using hu')
/-- What was made later is apart from what was there. -/
theorem apart_later {w w1 : World} {b : Nat} {u v : Value} {l m : List S34} (hu : RW w b u l) (hv : RW w1 w.heap.size v m) : Apart v u := fun k hk e => by
  have h1 := Kd.R_base hv k hk
  have h2 := Kd.R_lt hu k e.symm
  omega

set_option maxRecDepth 100000 in
set_option maxHeartbeats 8000000 in
theorem own_calls (B0 G H : Nat) (vs us : List Value) (Ls : List (List S34)) (w0 w : World) (n : Nat) (hn : vs.length = n) (hus : us.length = n) (hn8 : n ≤ 1000) (hF : First B0 G H vs us Ls w0 w) (hL : ∀ l ∈ Ls, l.length ≤ 100000) :
    Calls Tryd.prog 25 #[.slice (some ⟨G, 0, none⟩) n n, .slice (some ⟨H, 0, none⟩) n n] w fun e w' => e = .returned (.bool true) ∧ Below B0 w0 w' := by
  have HF := Aside0.mk hF
  have HLs := Aside0.mk hL
  have HN := Aside0.mk hn
  have HU := Aside0.mk hus
  clear hF hL hn hus
  go_enter Tryd.func25, Tryd.ntmps25
  go_wp2_with fail
  go_loopw [5] (fun i wr => ∃ k : Nat, k ≤ n ∧ i = .int .i64 k ∧ Aside0 (First B0 G H vs us Ls w0 wr)) (fun i _ => n - (RowKit.intOf i).toNat)
  case atStart => exact ⟨0, Nat.zero_le _, rfl, HF⟩
  case round =>
    clear HF
    obtain ⟨k, hk, rfl, HF⟩ := hrel
    by_cases hlt : k < n
    · obtain ⟨A1, c1, A2, c2, l, hmem, q1, q2, C1, hc1, C2, hc2⟩ := HF.out.at (by rw [HU.out, HN.out]) k (by rw [HN.out]; exact hlt)
      have C1 := Aside0.mk C1
      have C2 := Aside0.mk C2
      have hll := HLs.out l hmem
      have HS := Aside0.mk (same_self (l.length + 1) l (by omega) (by omega))
      have i0 : (k : Int) < (n : Int) := by omega
      clear hmem
      go_wp2_with fail
      go_region_with (go_at_call 26; (with_reducible refine (vesperref07_Same.calls (l.length + 1) A1 c1 l A2 c2 l true _ (Kd.C_drew C1.out) hc1 (Kd.C_drew C2.out) hc2 HS.out).mono ?_); rintro e w1 ⟨rfl, hd⟩; have n0_ : Aside0 (First B0 G H vs us Ls w0 w1) := ⟨HF.out.below (below_step (below_drew1 (Below.refl _ _)) hd.below)⟩; clear HF hd; have HF := n0_; clear n0_)
      all_goals
        go_wp2
        go_roundw
        case rel => exact ⟨k + 1, by omega, by go_num, HF⟩
        case measure => simp [RowKit.intOf]; omega
    · obtain rfl : k = n := by omega
      have HS2 : Aside0 (Second B0 G vs w0 0 wr) := ⟨⟨Ls, HF.out.fam, HF.out.side, fun j l hj => ⟨fun h => by omega, HLs.out l (List.mem_of_getElem? hj)⟩⟩⟩
      clear HF HLs
      go_wp2_with fail
      go_loopw [6, 7] (fun i _ wr => ∃ j : Nat, j ≤ k ∧ i = .int .i64 j ∧ Aside0 (Second B0 G vs w0 j wr)) (fun i _ _ => k - (RowKit.intOf i).toNat)
      case atStart => exact ⟨0, Nat.zero_le _, rfl, HS2⟩
      case round =>
        clear HS2
        obtain ⟨j, hj, rfl, HS⟩ := hrel
        by_cases hjlt : j < k
        · obtain ⟨A, N, c, hv, hN, hT⟩ := HS.out.row (by rw [HN.out]; exact hjlt)
          have HV := Aside0.mk hv
          have HT := Aside0.mk hT
          have j0 : (j : Int) < (k : Int) := by omega
          clear hv hT HS
          go_wp2_with fail
          go_loopw [7] (fun i wr => ∃ t : Nat, t ≤ N ∧ i = .int .i64 t ∧ Aside0 (Second2 B0 G vs w0 j N t wr)) (fun i _ => N - (RowKit.intOf i).toNat)
          case atStart => exact ⟨0, Nat.zero_le _, rfl, HT⟩
          case round =>
            clear HT
            obtain ⟨t, ht, rfl, HT⟩ := hrel
            have qG := HT.out.cell _ HV.out
            by_cases htlt : t < N
            · obtain ⟨g, eA, ⟨⟨u0, z0⟩, ⟨u1, z1⟩, ⟨u2, z2⟩, ⟨u3, z3⟩, ⟨u4, z4⟩, ⟨u5, z5⟩, ⟨u6, z6⟩, ⟨u7, z7⟩, ⟨u8, z8⟩, ⟨u9, z9⟩⟩, ⟨y0, y1, y2, y3, y4, y5, y6, y7, y8, y9⟩, hT⟩ := HT.out.step HV.out htlt
              subst eA
              have HX := Aside0.mk hT
              have t0 : (t : Int) < (N : Int) := by omega
              clear hT HT
              go_wp2
              go_roundw
              case rel => exact ⟨t + 1, by omega, by go_num, HX⟩
              case measure => simp [RowKit.intOf]; omega
            · obtain rfl : t = N := by omega
              have HX := Aside0.mk HT.out.ends
              clear HT
              go_wp2
              go_roundw
              case rel => exact ⟨j + 1, by omega, by go_num, HX⟩
              case measure => simp [RowKit.intOf]; omega
        · obtain rfl : j = k := by omega
          have H3 : Aside0 (Third B0 G vs w0 0 (.slice none 0 0) [] wr) := ⟨by have h := HS.out; rw [← HN.out] at h; exact h.third⟩
          clear HS
          go_wp2_with fail
          go_loopw [8, 9, 10, 11] (fun v8 i _ _ wr => ∃ (m : Nat) (gs : List Sl), m ≤ j ∧ i = .int .i64 m ∧ Aside0 (Third B0 G vs w0 m v8 gs wr)) (fun _ i _ _ _ => j - (RowKit.intOf i).toNat)
          case atStart => exact ⟨0, [], Nat.zero_le _, rfl, H3⟩
          case round =>
            clear H3
            obtain ⟨m, gs, hm, rfl, HT⟩ := hrel
            by_cases hmlt : m < j
            · obtain ⟨v10, N, qv, hN, hT2⟩ := HT.out.cell (by rw [HN.out]; exact hmlt)
              have H2 := Aside0.mk hT2
              have m0 : (m : Int) < (j : Int) := by omega
              clear hT2 HT
              go_wp2_with fail
              go_loopw [10, 11] (fun v10 i wr => ∃ t : Nat, t ≤ 20 ∧ i = .int .i64 t ∧ Aside0 (Third2 B0 G vs w0 m u8 gs N t v10 wr)) (fun _ i _ => 20 - (RowKit.intOf i).toNat)
              case atStart => exact ⟨0, by omega, rfl, H2⟩
              case round =>
                clear H2
                obtain ⟨t, ht, rfl, H2⟩ := hrel
                by_cases htlt : t < 20
                · obtain ⟨v, w2, hrun, hT3⟩ := H2.out.step hN htlt
                  have HX := Aside0.mk hT3
                  have t0 : (t : Int) < 20 := by omega
                  clear hT3 H2
                  go_wp2
                  go_roundw
                  case rel => exact ⟨t + 1, by omega, by go_num, HX⟩
                  case measure => simp [RowKit.intOf]; omega
                · obtain rfl : t = 20 := by omega
                  obtain ⟨A, n', c, e10⟩ := H2.out.form
                  subst e10
                  obtain ⟨v, w2, hrun, hT3⟩ := H2.out.ends (by omega)
                  have HX := Aside0.mk hT3
                  clear hT3 H2
                  go_wp2
                  go_roundw
                  case rel => exact ⟨m + 1, _, by omega, by go_num, HX⟩
                  case measure => simp [RowKit.intOf]; omega
            · obtain rfl : m = j := by omega
              obtain ⟨A8, c8, e8⟩ := HT.out.head
              subst e8
              have HB := Aside0.mk HT.out.bel
              go_wp2_with fail
              go_loop [12, 13] (fun i _ => ∃ x : Nat, x ≤ m ∧ i = .int .i64 x) (fun i _ => m - (RowKit.intOf i).toNat)
              case atStart => exact ⟨0, Nat.zero_le _, rfl⟩
              case round =>
                obtain ⟨x, hx, rfl⟩ := hrel
                by_cases hxlt : x < m
                · obtain ⟨g8, A, n', c, eA, hn', q8, hq⟩ := HT.out.elem x hxlt
                  subst eA
                  have HQ := Aside0.mk hq
                  have x0 : (x : Int) < (m : Int) := by omega
                  clear hq
                  go_wp2_with fail
                  go_loop [13] (fun i => ∃ t : Nat, t ≤ n' ∧ i = .int .i64 t) (fun i => n' - (RowKit.intOf i).toNat)
                  case atStart => exact ⟨0, Nat.zero_le _, rfl⟩
                  case round =>
                    obtain ⟨t, ht, rfl⟩ := hrel
                    by_cases htlt : t < n'
                    · obtain ⟨g, eg, qt⟩ := HQ.out t htlt
                      subst eg
                      have t0 : (t : Int) < (n' : Int) := by omega
                      go_wp2
                      go_round
                      case rel => exact ⟨t + 1, by omega, by go_num⟩
                      case measure => simp [RowKit.intOf]; omega
                    · obtain rfl : t = n' := by omega
                      go_wp2
                      go_round
                      case rel => exact ⟨x + 1, by omega, by go_num⟩
                      case measure => simp [RowKit.intOf]; omega
                · obtain rfl : x = m := by omega
                  go_wp2
                  go_ret
                  exact ⟨rfl, HB.out⟩
end Go.Proofs.YtdjffafcmomalaaDoor.Own
