/- append on a row of the call's own: the elder slice still owns what it owned. And the same for waves, with append kept shut. Over any program, then over this one. -/
import Derived.Test.YtdibgdiiamcmfaaDoorTapeApp
import Derived.Maps.AppendAt
import Derived.ProofKit
set_option linter.unusedVariables false
set_option linter.unusedSimpArgs false
namespace Go.Proofs.YtdibgdiiamcmfaaDoor.Elder
open Go Go.RowKit
open Go.Proofs.YtdibgdiiamcmfaaDoorW.PrintWords Go.Proofs.YtdibgdiiamcmfaaDoor.PTape Go.Proofs.YtdibgdiiamcmfaaDoor.App

theorem elder_own {P : Program} (w : World) (base : Nat) (t ty e : TypeId) (i : TypeInfo) (z : Value) (size bytes : Nat) (ht : P.underlying t = some (.slice e)) (hi : P.info? e = some i) (hz : i.zero = some z)
    (hsize : i.size = size) (hby : i.bytes = bytes)
    (v : Value) (n : Nat) (xs : List Value) (hown : w.ownsRow base e size v n xs)
    (a : Addr) (m c : Nat) (news : List Value) (hl : news.length = m * size) (hnews : ∀ j u, news[j]? = some u → w.cell? (a.add j) = some u) (h1 : ∀ u ∈ news, u.oneCell' = true)
    (h63 : n + m ≤ maxLen) (hbytes : (n + m) * bytes ≤ 140737488355328) {v' : Value} {w' : World} (hrun : (Builtin.append_ #[t, t] ty #[v, .slice (some a) m c]).run P w = .ok v' w') : w'.ownsRow base e size v n xs := by
  subst hsize
  subst hby
  rcases hown.2 with ⟨rfl, rfl⟩ | ⟨g, cap, cur, rfl, hbg, hg, hnc, hcm, hcs, htake⟩
  · have hx : xs = [] := List.eq_nil_of_length_eq_zero (by simpa using hown.1)
    subst hx
    exact World.ownsRow_nil _ _ _ _
  · have hcl : xs.length = n * i.size := hown.1
    by_cases hroom : n + m ≤ cap
    · have hfit : n * i.size + news.length ≤ cur.size := by rw [hl, hcs, ← Nat.add_mul]; exact Nat.mul_le_mul_right _ hroom
      have hr := run_append_room (P := P) w t ty e i ht hi g n cap cur hg a m c news hl hnews h1 hroom hfit
      rw [hr] at hrun
      injection hrun with _ hw
      subst hw
      refine ⟨hcl, .inr ⟨g, cap, _, rfl, hbg, setRow_heap w g cur _ e _ hg, hnc, hcm, ?_, ?_⟩⟩
      · simp only [List.size_toArray, List.length_append, List.length_take, List.length_drop, Array.length_toList]
        omega
      · show (cur.toList.take (n * i.size) ++ news ++ cur.toList.drop (n * i.size + news.length)).take (n * i.size) = xs
        rw [htake, List.append_assoc, ← hcl, List.take_left]
    · have holds : ∀ j u, xs[j]? = some u → w.cell? ((⟨g, 0, none⟩ : Addr).add j) = some u := hown.cells (g := g) rfl
      have hr := run_append_grow (P := P) w t ty e i z ht hi hz ⟨g, 0, none⟩ n cap xs hcl holds a m c news hl hnews (by omega) (by simp only [maxLen] at h63; omega) (growslice_fits (by omega) hbytes)
      rw [hr] at hrun
      injection hrun with _ hw
      subst hw
      exact ⟨hcl, .inr ⟨g, cap, cur, rfl, hbg, (heap_alloc_old w.drew _ (r := g) (Array.getElem?_eq_some_iff.1 hg).1).trans hg, hnc, hcm, hcs, htake⟩⟩

theorem k37_any {w w' : World} {b b' : Nat} {ok ok' : Nat → Prop} {x : S37} {cs : List Value} (h : k37.M w b ok x cs) : k37.M w' b' ok' x cs := by
  rw [k37_openM h]
  exact k37_mkM w' b' ok' x

/-- append of one wave to waves of the call's own: the new waves, where they lie, and the elder ones, which stay. -/
theorem app37 {W : World} (base : Nat) (v : Value) (xs : List S37) (p : S37) (HO : k37.R 37 W base (fun _ => True) v xs) (hbase : base ≤ W.heap.size) (hl : xs.length + 1 ≤ 1000000000000) :
    ∃ g cap w1, (appG #[24, 24] 24 #[v, .slice (some ⟨W.heap.size, 0, none⟩) 1 1]).run Tryd.prog (W.alloc (.cells #[.int .i64 p.f0, .int .i64 p.f1] 37)) = .ok (.slice (some ⟨g, 0, none⟩) (xs.length + 1) cap) w1 ∧
      k37.R 37 w1 base (fun _ => True) (.slice (some ⟨g, 0, none⟩) (xs.length + 1) cap) (xs ++ [p]) ∧ W.grownBy w1 v.ownBlock ∧ (v.ownBlock = some g ∨ W.heap.size ≤ g) ∧ k37.R 37 w1 base (fun _ => True) v xs := by
  obtain ⟨h0, inner, hown, hr⟩ := HO
  obtain ⟨i0, hi, hzz⟩ := Option.map_eq_some_iff.1 info37
  simp only [Prod.mk.injEq] at hzz
  obtain ⟨hz0, hz1, hz2⟩ := hzz
  have hnews : ∀ j u, [Value.int .i64 p.f0, Value.int .i64 p.f1][j]? = some u → (W.alloc (.cells #[.int .i64 p.f0, .int .i64 p.f1] 37)).cell? ((⟨W.heap.size, 0, none⟩ : Addr).add j) = some u := by
    simpa using World.news_of_block (cs := #[Value.int .i64 p.f0, Value.int .i64 p.f1]) (t := 37) (fr := (0, 0)) (heap_alloc_new W (.cells #[.int .i64 p.f0, .int .i64 p.f1] 37))
  have hone : ∀ u ∈ [Value.int .i64 p.f0, Value.int .i64 p.f1], u.oneCell' = true := by simp [Value.oneCell']
  obtain ⟨v', w1, hrun, hown', hg, _, hat⟩ := run_append_own_at (P := Tryd.prog) (W.alloc (.cells #[.int .i64 p.f0, .int .i64 p.f1] 37)) base 24 24 37 i0 (.agg #[(.int .i64 0), (.int .i64 0)]) 2 16 Tryd.underlying24 hi hz0 hz1 hz2 rfl (by decide) v xs.length inner (hown.alloc _) ⟨W.heap.size, 0, none⟩ 1 1 _ rfl hnews hone
    (by simp only [maxLen]; omega) (by omega) (by simp; omega)
  have hel := elder_own (P := Tryd.prog) (W.alloc (.cells #[.int .i64 p.f0, .int .i64 p.f1] 37)) base 24 24 37 i0 (.agg #[(.int .i64 0), (.int .i64 0)]) 2 16 Tryd.underlying24 hi hz0 hz1 hz2 v xs.length inner (hown.alloc _) ⟨W.heap.size, 0, none⟩ 1 1 _ rfl hnews hone
    (by simp only [maxLen]; omega) (by omega) hrun
  obtain ⟨g, cap, rfl⟩ := ownsRow_succ hown'
  have hg1 : W.grownBy w1 v.ownBlock := World.grownBy.trans (World.grownBy_alloc W _ _) hg
  have hr1 : Reps (k37.M w1 base (fun k => True ∧ some k ≠ v.ownBlock)) 2 xs inner := ⟨hr.1, fun j p hj => k37_any (hr.2 j p hj)⟩
  refine ⟨g, cap, w1, hrun, ?_, hg1, ?_, h0, inner, hel, hr1⟩
  · refine Kd.R_appended h0 hr (k37_mkM _ _ (fun _ => False) p) (fun _ h => h.elim) (fun _ _ => trivial) hown' hg1 ?_
    rcases hat with hat | hat
    · exact .inl hat
    · exact .inr ⟨_, hat, by simp⟩
  · rcases hat with hat | hat
    · exact .inl hat.symm
    · right
      simp only [Value.ownBlock, Option.some.injEq] at hat
      rw [hat]; simp
end Go.Proofs.YtdibgdiiamcmfaaDoor.Elder
