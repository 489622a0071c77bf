/- A row of blocks whose bytes lie with marked room behind: the kind; append of one such block. -/
import Derived.Test.YtbffmfeflcdgbaaDoorAsmReg
import Derived.RangeFuncBox
set_option linter.unusedVariables false
set_option linter.unusedSimpArgs false
namespace Go.Proofs.YtbffmfeflcdgbaaDoor.Obj
open Go Go.RowKit
open Go.Proofs.YtbffmfeflcdgbaaDoorW.PrintWords Go.Proofs.YtbffmfeflcdgbaaDoor.POb Go.Proofs.YtbffmfeflcdgbaaDoor.LentL Go.Proofs.YtbffmfeflcdgbaaDoor.Room

abbrev kS5 : Kd (List Int) := Kd.slice 5 kb
/-- A row of bytes with marked room behind. -/
def kRm : Kd (List Int) where
 sz := 1
 E := kS5.E
 K w l cs := ∃ g, cs = [.slice (some ⟨g, 0, none⟩) l.length (l.length + 5)] ∧ kS5.K w (l ++ mk5) [.slice (some ⟨g, 0, none⟩) (l.length + 5) (l.length + 5)]
 M w base ok l cs := ∃ g, cs = [.slice (some ⟨g, 0, none⟩) l.length (l.length + 5)] ∧ kS5.M w base ok (l ++ mk5) [.slice (some ⟨g, 0, none⟩) (l.length + 5) (l.length + 5)]
 K_len := by rintro _ _ _ ⟨g, rfl, _⟩; rfl
 K_one := by
  rintro w x cs ⟨g, rfl, _⟩ u hu
  rw [List.mem_singleton] at hu
  subst hu; rfl
 K_below := by rintro w w1 x cs hb ⟨g, e, h⟩; exact ⟨g, e, kS5.K_below hb h⟩
 K_of_M := by rintro w base ok x cs ⟨g, e, h⟩; exact ⟨g, e, kS5.K_of_M h⟩
 M_mono := by rintro w base ok ok' x cs hk ⟨g, e, h⟩; exact ⟨g, e, kS5.M_mono hk h⟩
 M_bound := by rintro w base ok x cs ⟨g, e, h⟩; exact ⟨g, e, kS5.M_bound h⟩
 M_move := by rintro w w1 base ok x cs hk ⟨g, e, h⟩; exact ⟨g, e, kS5.M_move hk h⟩
 M_lower := by rintro w base base' ok x cs hb ⟨g, e, h⟩; exact ⟨g, e, kS5.M_lower hb h⟩

def k42r : Kd S42 := Kd.iso (Kd.pair (Kd.int .i64) kRm) (fun x : S42 => (x.f0, x.f1))
theorem kRm_C {w : World} {l : List Int} {cs : List Value} (h : kRm.K w l cs) : ∃ g, cs = [.slice (some ⟨g, 0, none⟩) l.length (l.length + 5)] ∧ kb.C w (some ⟨g, 0, none⟩) (l.length + 5) (l ++ mk5) := by
 obtain ⟨g, e, A, c, e2, h2, h3⟩ := h
 refine ⟨g, e, ?_⟩
 have e3 := Option.some.inj (show some (Value.slice (some ⟨g, 0, none⟩) (l.length + 5) (l.length + 5)) = some (Value.slice A (l ++ mk5).length c) from congrArg (fun l => l[0]?) e2)
 injection e3 with ea en ec
 rw [ea, en]
 exact h3
theorem take_C {w : World} {A : Option Addr} {l m : List Int} {n : Nat} (h : kb.C w A n (l ++ m)) : kb.C w A l.length l := by
 obtain rfl : (l ++ m).length = n := h.1
 have := Kd.C_take h (m := l.length) (by simp)
 simpa using this
theorem k42_of_r {w : World} {x : S42} {cs : List Value} (h : k42r.K w x cs) : k42.K w x cs := by
 obtain ⟨a, b, rfl, rfl, h2⟩ := h
 obtain ⟨g, rfl, h3⟩ := kRm_C h2
 exact k42_mk w x (Nat.le_add_right _ 5) (take_C h3)
theorem C_of_r {w : World} {A : Option Addr} {n : Nat} {xs : List S42} (h : k42r.C w A n xs) : k42.C w A n xs := ReadsRow.imp_ h (Below.refl _ _) (fun _ _ hp => k42_of_r hp)
theorem kd_app {P : Program} {α : Type} (d : Kd α) {W : World} (base : Nat) (t e : TypeId) (z : Value) (bytes : Nat)
 (ht : P.underlying t = some (.slice e)) (hinfo : (P.info? e).map (fun i => (i.zero, i.size, i.bytes)) = some (some z, d.sz, bytes)) (hz : z.cells.size = d.sz) (hs0 : 0 < d.sz) (hb0 : 0 < bytes)
 (v : Value) (xs : List α) (p : α) (cs : List Value) (ok okp : Nat → Prop) (hp : d.M W base okp p cs) (hokp : ∀ k, okp k → ok k ∧ some k ≠ v.ownBlock) (hfresh : ∀ k, W.heap.size ≤ k → ok k)
 (HO : d.R e W base ok v xs) (hbase : base ≤ W.heap.size) (hl : (xs.length + 1) * bytes ≤ 140737488355328) :
 ∃ g cap w1, (Builtin.append_ #[t, t] t #[v, .slice (some ⟨W.heap.size, 0, none⟩) 1 1]).run P (W.alloc (.cells cs.toArray e)) = .ok (.slice (some ⟨g, 0, none⟩) (xs.length + 1) cap) w1 ∧
  d.R e w1 base ok (.slice (some ⟨g, 0, none⟩) (xs.length + 1) cap) (xs ++ [p]) ∧ W.grownBy w1 v.ownBlock ∧ (v.ownBlock = some g ∨ W.heap.size ≤ g) := by
 obtain ⟨h0, inner, hown, hr⟩ := HO
 obtain ⟨i0, hi, hzz⟩ := Option.map_eq_some_iff.1 hinfo
 simp only [Prod.mk.injEq] at hzz
 obtain ⟨hz0, hz1, hz2⟩ := hzz
 have hlen : xs.length + 1 ≤ 140737488355328 := Nat.le_trans (Nat.le_mul_of_pos_right _ hb0) hl
 have hcl := d.K_len (d.K_of_M hp)
 obtain ⟨v', w1, hrun, hown', hg, _, hat⟩ := run_append_own_at (P := P) (W.alloc (.cells cs.toArray e)) base t t e i0 z d.sz bytes ht hi hz0 hz1 hz2 hz hs0 v xs.length inner (hown.alloc _) ⟨W.heap.size, 0, none⟩ 1 1 cs (by rw [hcl]; simp)
  (by simpa using World.news_of_block (cs := cs.toArray) (t := e) (fr := (0, 0)) (heap_alloc_new W (.cells cs.toArray e))) (d.K_one (d.K_of_M hp)) (by simp only [maxLen]; omega) hl (by simp; omega)
 obtain ⟨g, cap, rfl⟩ := ownsRow_succ hown'
 have hg1 : W.grownBy w1 v.ownBlock := World.grownBy.trans (World.grownBy_alloc W _ _) hg
 refine ⟨g, cap, w1, hrun, ?_, hg1, ?_⟩
 ·refine Kd.R_appended h0 hr hp hokp hfresh hown' hg1 ?_
  rcases hat with hat | hat
  ·exact .inl hat
  exact .inr ⟨_, hat, by simp⟩
 rcases hat with hat | hat
 ·exact .inl hat.symm
 right
 simp only [Value.ownBlock, Option.some.injEq] at hat
 rw [hat]; simp


set_option maxRecDepth 100000 in
/-- append at a step of a drawn region, by its run equation. -/
theorem step_app_run {ops : Array Oper} {o : Oper} {a : Act} {W : World} {K : Act → World → Prop} {Q : Exit → Act → World → Prop} {E : Prop}
 (hg : o.guard = none) (s x : Operand) (t : TypeId) (hop : o.op = Op.call { callee := Callee.builtin Builtin.append, args := #[s, x], argTypes := #[t, t] }) (hty : o.type = t)
 (vs vx v1 : Value) (w1 : World) (hs : a.eval s = vs) (hx : a.eval x = vx) (hrun : (Builtin.append_ #[t, t] t #[vs, vx]).run Tryd.prog W = .ok v1 w1)
 (hK : K (a.put o.dst v1) w1) : if Region.wanted o (yielded ops a.tmps) = true then Oper.wp Tryd.prog o a W K Q else E := by
 have hw : Region.wanted o (yielded ops a.tmps) = true := by simp [Region.wanted, hg]
 rw [if_pos hw]
 unfold Oper.wp
 simp [execOp, hop, hty, resolve, invoke, builtin, hs, hx, hrun, Result.andThen]
 exact hK

structure St (w W : World) (k : Nat) (l0 : List S42) (s14 s22 : Value) (row14 row22 box : Array Value) (gb gr g3 g14 g22 gB cap : Nat) : Prop where
 R : k42r.R 42 W gb (fun _ => True) (.slice (some ⟨gB, 0, none⟩) k cap) (l0.take k)
 h3 : W.heap[g3]? = some (.cells #[.slice (some ⟨gB, 0, none⟩) k cap, s14, s22] 26 (0, 0))
 hb : W.heap[gb]? = some (.cells box 26 (0, 0))
 hr : W.heap[gr]? = some (.cells #[.slice none 0 0, .slice none 0 0, .slice none 0 0] 26 (0, 0))
 h14 : W.heap[g14]? = some (.cells row14 52 (0, 0))
 h22 : W.heap[g22]? = some (.cells row22 47 (0, 0))
 nb : g3 ≠ gb
 nr : g3 ≠ gr
 base : w.heap.size ≤ gb
 ge3 : gb ≤ g3
 ger : gb ≤ gr
 below : Below w.heap.size w W

theorem St.step {w W W1 : World} {k : Nat} {l0 : List S42} {s14 s22 : Value} {row14 row22 box : Array Value} {gb gr g3 g14 g22 gB cap : Nat} (h : St w W k l0 s14 s22 row14 row22 box gb gr g3 g14 g22 gB cap) (hk : k < l0.length) (hl : l0.length ≤ 100000000000)
 (g : Nat) (hroom : kb.R 5 W1 W.heap.size (fun _ => True) (.slice (some ⟨g, 0, none⟩) ((rd_T42 l0 k).f1.length + 5) ((rd_T42 l0 k).f1.length + 5)) ((rd_T42 l0 k).f1 ++ mk5)) (hB1 : Below W.heap.size W W1) :
 ∃ gB' cap' W2, (Builtin.append_ #[22, 22] 22 #[.slice (some ⟨gB, 0, none⟩) k cap, .slice (some ⟨W1.heap.size, 0, none⟩) 1 1]).run Tryd.prog (W1.alloc (.cells #[.int .i64 (rd_T42 l0 k).f0, .slice (some ⟨g, 0, none⟩) (rd_T42 l0 k).f1.length ((rd_T42 l0 k).f1.length + 5)] 42)) = .ok (.slice (some ⟨gB', 0, none⟩) (k + 1) cap') W2 ∧
  W1.heap[g3]? = some (.cells #[.slice (some ⟨gB, 0, none⟩) k cap, s14, s22] 26 (0, 0)) ∧ W2.heap[g3]? = some (.cells #[.slice (some ⟨gB, 0, none⟩) k cap, s14, s22] 26 (0, 0)) ∧ W1.heap[gb]? = some (.cells box 26 (0, 0)) ∧ W2.heap[gb]? = some (.cells box 26 (0, 0)) ∧ Below w.heap.size w W1 ∧ Below w.heap.size w W2 ∧
  St w (W2.setCell ⟨g3, 0, none⟩ (.slice (some ⟨gB', 0, none⟩) (k + 1) cap')) (k + 1) l0 s14 s22 row14 row22 box gb gr g3 g14 g22 gB' cap' := by
 have hgb : gb < W.heap.size := blk_lt h.hb
 have hR1 := Kd.R_below h.R hB1
 have hgB : gB < W.heap.size := Kd.R_lt h.R gB rfl
 have hle : W.heap.size ≤ W1.heap.size := hB1.size
 have hlen : (l0.take k).length = k := by simp; omega
 have hp : k42r.M W1 gb (fun i => W.heap.size ≤ i) (rd_T42 l0 k) [.int .i64 (rd_T42 l0 k).f0, .slice (some ⟨g, 0, none⟩) (rd_T42 l0 k).f1.length ((rd_T42 l0 k).f1.length + 5)] := by
  refine ⟨[.int .i64 (rd_T42 l0 k).f0], _, rfl, rfl, g, rfl, _, rfl, ?_⟩
  exact Kd.R_lower (Kd.R_mono (Kd.R_bound hroom) (fun i hi => hi.2.1)) (by omega)
 obtain ⟨gB', cap', W2, hrun, hR2, hG, hat⟩ := kd_app (P := Tryd.prog) k42r (W := W1) gb 22 42 z42v 32 Tryd.underlying22 info42 rfl (by decide) (by decide) (.slice (some ⟨gB, 0, none⟩) k cap) (l0.take k) (rd_T42 l0 k)
  [.int .i64 (rd_T42 l0 k).f0, .slice (some ⟨g, 0, none⟩) (rd_T42 l0 k).f1.length ((rd_T42 l0 k).f1.length + 5)] (fun _ => True) (fun i => W.heap.size ≤ i) hp (fun i hi => ⟨trivial, by simp only [Value.ownBlock]; intro e; injection e with e; omega⟩) (fun _ _ => trivial) hR1 (by omega) (by rw [hlen]; omega)
 rw [hlen] at hrun hR2
 have htk : l0.take k ++ [rd_T42 l0 k] = l0.take (k + 1) := by
  unfold rd_T42
  rw [Int.toNat_natCast, List.getD_eq_getElem?_getD, List.getElem?_eq_getElem hk, Option.getD_some]
  exact (List.take_succ_eq_append_getElem hk).symm
 rw [htk] at hR2
 have up1 : ∀ {i : Nat} {cs : Array Value} {t : TypeId}, W.heap[i]? = some (.cells cs t (0, 0)) → W1.heap[i]? = some (.cells cs t (0, 0)) := fun hi => by rw [hB1.block _ (blk_lt hi)]; exact hi
 have up2 : ∀ {i : Nat} {cs : Array Value} {t : TypeId}, 42 ≠ t → W.heap[i]? = some (.cells cs t (0, 0)) → W2.heap[i]? = some (.cells cs t (0, 0)) := fun ht hi => blk_grown (up1 hi) hG (Kd.R_ne hR1 (up1 hi) ht)
 have b1 : Below w.heap.size w W1 := below_step h.below hB1
 have b2 : Below w.heap.size w W2 := b1.grown hG b1.size (fun i hi => by
  simp only [Value.ownBlock, Option.some.injEq] at hi
  have hge : gb ≤ gB := Kd.R_base h.R gB rfl
  have := h.base
  omega)
 refine ⟨gB', cap', W2, hrun, up1 h.h3, up2 (by decide) h.h3, up1 h.hb, up2 (by decide) h.hb, b1, b2, ?_⟩
 have f26 : ∀ {i : Nat} {cs : Array Value} {t : TypeId}, i ≠ g3 → W2.heap[i]? = some (.cells cs t (0, 0)) → (W2.setCell ⟨g3, 0, none⟩ (.slice (some ⟨gB', 0, none⟩) (k + 1) cap')).heap[i]? = some (.cells cs t (0, 0)) := fun hn hi => set_far' hi hn
 have hz := up2 (by decide) h.h3
 exact {
  R := Kd.R_set hR2 hz (by intro q hq; have h5 : q ∈ [42, 5] := hq; rcases List.mem_cons.1 h5 with rfl | h5; exact (by decide); rw [List.mem_singleton.1 h5]; exact (by decide)) 0 _
  h3 := blk_put hz 0 _ rfl
  hb := f26 h.nb.symm (up2 (by decide) h.hb)
  hr := f26 h.nr.symm (up2 (by decide) h.hr)
  h14 := f26 (blk_ne (up2 (by decide) h.h14) hz (by decide)) (up2 (by decide) h.h14)
  h22 := f26 (blk_ne (up2 (by decide) h.h22) hz (by decide)) (up2 (by decide) h.h22)
  nb := h.nb
  nr := h.nr
  base := h.base
  ge3 := h.ge3
  ger := h.ger
  below := below_set' b2 (Nat.le_trans h.base h.ge3) }
end Go.Proofs.YtbffmfeflcdgbaaDoor.Obj
