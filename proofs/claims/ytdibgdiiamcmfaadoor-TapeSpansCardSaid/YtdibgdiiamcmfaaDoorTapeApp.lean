/- append, kept shut in a walk: what it runs to, for a row of a call's own and one more element. Over any program. -/
import Derived.Test.YtdibgdiiamcmfaaDoorPTapex0
import Derived.RangeFuncBox
import Derived.Lib.Hide
set_option linter.unusedVariables false
set_option linter.unusedSimpArgs false
namespace Go.Proofs.YtdibgdiiamcmfaaDoor.App
open Go.RowKit
open Go.Proofs.YtdibgdiiamcmfaaDoorW.PrintWords

/-- append, kept shut in a walk. -/
def appG (ts : Array TypeId) (t : TypeId) (xs : Array Value) : Sem Value := Builtin.append_ ts t xs
theorem appG_eq (ts : Array TypeId) (t : TypeId) (xs : Array Value) : Builtin.append_ ts t xs = appG ts t xs := rfl

theorem kd_app {P : Program} {α : Type} (d : Kd α) {W : World} (base : Nat) (t e : TypeId) (z : Value) (bytes : Nat)
    (ht : P.underlying t = some (.slice e)) (hinfo : (P.info? e).map (fun i => (i.zero, i.size, i.bytes)) = some (some z, d.sz, bytes)) (hz : z.cells.size = d.sz) (hs0 : 0 < d.sz) (hb0 : 0 < bytes)
    (v : Value) (xs : List α) (p : α) (cs : List Value) (ok okp : Nat → Prop) (hp : d.M W base okp p cs) (hokp : ∀ k, okp k → ok k ∧ some k ≠ v.ownBlock) (hfresh : ∀ k, W.heap.size ≤ k → ok k)
    (HO : d.R e W base ok v xs) (hbase : base ≤ W.heap.size) (hl : (xs.length + 1) * bytes ≤ 140737488355328) :
    ∃ g cap w1, (appG #[t, t] t #[v, .slice (some ⟨W.heap.size, 0, none⟩) 1 1]).run P (W.alloc (.cells cs.toArray e)) = .ok (.slice (some ⟨g, 0, none⟩) (xs.length + 1) cap) w1 ∧
      d.R e w1 base ok (.slice (some ⟨g, 0, none⟩) (xs.length + 1) cap) (xs ++ [p]) ∧ W.grownBy w1 v.ownBlock := by
  obtain ⟨h0, inner, hown, hr⟩ := HO
  obtain ⟨i0, hi, hzz⟩ := Option.map_eq_some_iff.1 hinfo
  simp only [Prod.mk.injEq] at hzz
  obtain ⟨hz0, hz1, hz2⟩ := hzz
  have hlen : xs.length + 1 ≤ 140737488355328 := Nat.le_trans (Nat.le_mul_of_pos_right _ hb0) hl
  have hcl := d.K_len (d.K_of_M hp)
  obtain ⟨v', w1, hrun, hown', hg, _, hat⟩ := run_append_own_at (P := P) (W.alloc (.cells cs.toArray e)) base t t e i0 z d.sz bytes ht hi hz0 hz1 hz2 hz hs0 v xs.length inner (hown.alloc _) ⟨W.heap.size, 0, none⟩ 1 1 cs (by rw [hcl]; simp)
    (by simpa using World.news_of_block (cs := cs.toArray) (t := e) (fr := (0, 0)) (heap_alloc_new W (.cells cs.toArray e))) (d.K_one (d.K_of_M hp)) (by simp only [maxLen]; omega) hl (by simp; omega)
  obtain ⟨g, cap, rfl⟩ := ownsRow_succ hown'
  have hg1 : W.grownBy w1 v.ownBlock := World.grownBy.trans (World.grownBy_alloc W _ _) hg
  refine ⟨g, cap, w1, hrun, ?_, hg1⟩
  refine Kd.R_appended h0 hr hp hokp hfresh hown' hg1 ?_
  rcases hat with hat | hat
  · exact .inl hat
  · exact .inr ⟨_, hat, by simp⟩

/-- The same for a kind of one cell. -/
theorem kd_app1 {P : Program} {α : Type} (enc : α → Value) (h1 : ∀ x, (enc x).oneCell' = true) {W : World} (base : Nat) (t e : TypeId) (z : Value) (bytes : Nat)
    (ht : P.underlying t = some (.slice e)) (hinfo : (P.info? e).map (fun i => (i.zero, i.size, i.bytes)) = some (some z, 1, bytes)) (hz : z.cells.size = 1) (hb0 : 0 < bytes)
    (v : Value) (xs : List α) (p : α) (HO : (Kd.scalar enc h1).R e W base (fun _ => True) v xs) (hbase : base ≤ W.heap.size) (hl : (xs.length + 1) * bytes ≤ 140737488355328) :
    ∃ g cap w1, (appG #[t, t] t #[v, .slice (some ⟨W.heap.size, 0, none⟩) 1 1]).run P (W.alloc (.cells #[enc p] e)) = .ok (.slice (some ⟨g, 0, none⟩) (xs.length + 1) cap) w1 ∧
      (Kd.scalar enc h1).R e w1 base (fun _ => True) (.slice (some ⟨g, 0, none⟩) (xs.length + 1) cap) (xs ++ [p]) ∧ W.grownBy w1 v.ownBlock :=
  kd_app (Kd.scalar enc h1) base t e z bytes ht hinfo hz (Nat.lt_succ_self 0) hb0 v xs p [enc p] (fun _ => True) (fun _ => False) rfl (fun _ h => h.elim) (fun _ _ => trivial) HO hbase hl
end Go.Proofs.YtdibgdiiamcmfaaDoor.App
