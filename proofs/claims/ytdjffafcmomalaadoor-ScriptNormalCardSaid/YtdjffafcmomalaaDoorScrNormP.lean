/- script.Normal: what it tells, plain: the script of as few spans as may be that goes through the same cycles. -/
import Derived.Test.YtdjffafcmomalaaDoorScrCyc
import Derived.Test.YtdjffafcmomalaaDoorPScrx10
set_option linter.unusedVariables false
set_option linter.unusedSimpArgs false
namespace Go.Proofs.YtdjffafcmomalaaDoor.Scr
open Go Go.RowKit
open Go.Proofs.YtdjffafcmomalaaDoorW.PrintWords Go.Proofs.YtdjffafcmomalaaDoor.PScr

theorem rd_last (q : List S34) (t : S34) : rd_T34 (q ++ [t]) (q.length : Int) = t := rd_at q t []
/-- One round: a span more. -/
theorem norm_round (out p : List S34) (s : S34) (d : List S34) (k : Nat) (L : List S34) (hL : L = p ++ s :: d) (hs : okC s = true) (ho : Nrm out) (hout : out.length ≤ 5000) (hl : L.length ≤ 5000) :
    ∃ out', script_Normal.l0 (k + 2) out L (L.length : Int) (p.length : Int) = script_Normal.l0 k out' L (L.length : Int) ((p.length : Int) + 1) ∧ Nrm out' ∧ cyc out' = cyc out ++ cyc [s] ∧ out'.length ≤ out.length + 1 := by
  have hs1 := okC_pos hs
  have hlen : p.length + (d.length + 1) = L.length := by rw [hL]; simp
  have hrd : rd_T34 L (p.length : Int) = s := by rw [hL]; exact rd_at p s d
  have hw : wrap64 ((p.length : Int) + 1) = (p.length : Int) + 1 := w64 (by omega) (by omega)
  rcases List.eq_nil_or_concat out with rfl | ⟨q, t, rfl⟩
  · refine ⟨[s], ?_, hs, rfl, by simp⟩
    rw [script_Normal.l0, hrd, if_pos (by omega), if_pos (by omega), if_pos (by omega), if_neg (by decide), script_Normal.j1, if_neg (by decide), if_pos (by omega), if_pos (by decide), hw]
    rfl
  · rw [List.concat_eq_append] at *
    have ht1 := okC_pos (List.all_eq_true.1 ho.all t (by simp))
    have hqlen : ((q ++ [t]).length : Int) = (q.length : Int) + 1 := by simp
    have hqn : q.length + 1 ≤ 5000 := by simpa using hout
    have hw1 : wrap64 (((q ++ [t]).length : Int) - 1) = (q.length : Int) := by rw [hqlen, w64 (by omega) (by omega)]; omega
    have hw2 : wrap64 ((q.length : Int) + 1 - 1) = (q.length : Int) := by rw [w64 (by omega) (by omega)]; omega
    have hstart : script_Normal.l0 (k + 2) (q ++ [t]) L (L.length : Int) (p.length : Int) = script_Normal.j1 (k + 1) (q ++ [t]) ((q.length : Int) + 1) L (L.length : Int) (p.length : Int) (alike t s) s.f0 s.f1 s.f2 s.f3 s.f4 s.f5 s.f6 s.f7 s.f8 s.f9 := by
      rw [script_Normal.l0, hrd, if_pos (by omega), if_pos (by omega), if_pos (by omega), hw1, if_pos (by omega), if_pos (by omega), if_pos (by omega), rd_last]
      unfold script_with.f
      simp only [Option.bind_some]
      rw [hqlen]
      unfold alike
      simp
    rw [hstart, script_Normal.j1]
    by_cases c : alike t s = true
    · have ha := (alike_iff t s).1 c
      rw [c, if_pos rfl, hw2, if_pos (by omega), if_pos (by omega), rd_last]
      simp only [mn_eq, Int.toNat_natCast]
      have hset : ∀ x : S34, (q ++ [t]).set q.length x = q ++ [x] := fun x => by
        rw [List.set_append_right _ _ (Nat.le_refl _), Nat.sub_self]; rfl
      rw [hset, Option.bind_some]
      have hm : wrap64 (1048576 - t.f0) = 1048576 - t.f0 := w64 (by omega) (by omega)
      rw [hm]
      by_cases c2 : s.f0 ≤ 1048576 - t.f0
      · have e1 : min s.f0 (1048576 - t.f0) = s.f0 := by omega
        rw [e1, w64 (by omega) (by omega), w64 (by omega) (by omega), if_neg (by omega), hw]
        refine ⟨q ++ [withC t (t.f0 + s.f0)], rfl, ?_, ?_, by simp⟩
        · exact Nrm.last q t _ ho (okC_yes (by show ¬ t.f0 + s.f0 < 1; omega) (by show ¬ t.f0 + s.f0 > 1048576; omega)) rfl
        · have := cyc_two t t.f0 s.f0 (by omega) (by omega)
          rw [withC_same, withC_eq ha s.f0, withC_same] at this
          have e2 : cyc [t] ++ cyc [s] = cyc [withC t (t.f0 + s.f0)] := by rw [← cyc_append]; exact this
          rw [cyc_append, cyc_append, List.append_assoc, e2]
      · have e1 : min s.f0 (1048576 - t.f0) = 1048576 - t.f0 := by omega
        rw [e1, w64 (by omega) (by omega), w64 (by omega) (by omega), if_pos (by omega), if_pos (by simp; omega), hw]
        have hfull : t.f0 + (1048576 - t.f0) = 1048576 := by omega
        refine ⟨(q ++ [withC t (t.f0 + (1048576 - t.f0))]) ++ [withC s (s.f0 - (1048576 - t.f0))], rfl, ?_, ?_, by simp⟩
        · refine Nrm.snoc _ _ (Nrm.last q t _ ho (okC_yes (by show ¬ t.f0 + (1048576 - t.f0) < 1; omega) (by show ¬ t.f0 + (1048576 - t.f0) > 1048576; omega)) rfl) (okC_yes (by show ¬ s.f0 - (1048576 - t.f0) < 1; omega) (by show ¬ s.f0 - (1048576 - t.f0) > 1048576; omega)) ?_
          intro u hu _
          rw [List.getLast?_append] at hu
          simp at hu
          subst hu
          exact hfull
        · rw [cyc_append, cyc_append, cyc_append, List.append_assoc, List.append_assoc]
          congr 1
          have h1 := cyc_two t t.f0 (1048576 - t.f0) (by omega) (by omega)
          have h2 := cyc_two s (1048576 - t.f0) (s.f0 - (1048576 - t.f0)) (by omega) (by omega)
          rw [show (1048576 - t.f0) + (s.f0 - (1048576 - t.f0)) = s.f0 by omega, withC_same] at h2
          rw [withC_same] at h1
          rw [← withC_eq ha (1048576 - t.f0)] at h2
          rw [← h2, ← h1]
          simp [cyc]
    · have hne : ¬ withC t 0 = withC s 0 := fun h => c ((alike_iff t s).2 h)
      rw [if_neg c, if_pos (by omega), if_pos (by omega), hw]
      refine ⟨(q ++ [t]) ++ [s], rfl, ?_, by rw [cyc_append], by simp⟩
      refine Nrm.snoc _ _ ho hs ?_
      intro u hu hue
      rw [List.getLast?_append] at hu
      simp at hu
      subst hu
      exact (hne hue).elim
theorem norm_l0 (L : List S34) (hl : L.length ≤ 4096) : ∀ (d p out : List S34) (k : Nat), L = p ++ d → d.all okC = true → Nrm out → cyc out = cyc p → out.length ≤ p.length → 2 * d.length < k →
    ∃ r, script_Normal.l0 k out L (L.length : Int) (p.length : Int) = some (r, 0) ∧ Nrm r ∧ cyc r = cyc L ∧ r.length ≤ L.length := by
  intro d
  induction d with
  | nil =>
    intro p out k hL hd ho hc hn hk
    obtain ⟨k, rfl⟩ : ∃ m, k = m + 1 := ⟨k - 1, by simp at hk; omega⟩
    rw [List.append_nil] at hL
    subst hL
    exact ⟨out, by rw [script_Normal.l0, if_neg (by omega)], ho, hc, hn⟩
  | cons s d ih =>
    intro p out k hL hd ho hc hn hk
    rw [List.all_cons, Bool.and_eq_true] at hd
    simp only [List.length_cons] at hk
    obtain ⟨k, rfl⟩ : ∃ m, k = m + 2 := ⟨k - 2, by omega⟩
    have hpl : p.length ≤ L.length := by rw [hL]; simp
    obtain ⟨out', e, ho', hc', hn'⟩ := norm_round out p s d k L hL hd.1 ho (by omega) (by omega)
    rw [e]
    have := ih (p ++ [s]) out' k (by rw [hL]; simp) hd.2 ho' (by rw [hc', hc, cyc_append]) (by simp; omega) (by omega)
    rw [show ((p ++ [s]).length : Int) = (p.length : Int) + 1 by simp] at this
    exact this
/-- What Normal tells of a script that may be. -/
theorem normal_ok (l : List S34) (h : (cyclesR l).2 = 0) (k : Nat) (hk : 10000 ≤ k) : ∃ r, script_Normal.f k l = some (r, 0) ∧ Nrm r ∧ cyc r = cyc l ∧ r.length ≤ l.length := by
  obtain ⟨h1, h2, h3, h4⟩ := cyclesR_ok h
  obtain ⟨r, e, h5⟩ := norm_l0 l h1 l [] [] k rfl h2 trivial rfl (Nat.le_refl _) (by omega)
  refine ⟨r, ?_, h5⟩
  unfold script_Normal.f
  rw [check_f k l (by omega), Option.bind_some, h, if_pos rfl]
  exact e
theorem normal_bad (l : List S34) (h : (cyclesR l).2 ≠ 0) (k : Nat) (hk : 10000 ≤ k) : script_Normal.f k l = some ([], (cyclesR l).2) := by
  unfold script_Normal.f
  rw [check_f k l (by omega), Option.bind_some, if_neg h]
end Go.Proofs.YtdjffafcmomalaaDoor.Scr
