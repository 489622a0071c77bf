/- What the rounds of vesperlaw07.own do to a family of rows of spans, apart from each other, and to a row of slices: laws without a walk. -/
import Derived.Test.YtdjffafcmomalaaDoorScrM6
import Derived.RangeFuncBox
set_option linter.unusedVariables false
set_option linter.unusedSimpArgs false
namespace Go.Proofs.YtdjffafcmomalaaDoor.Own
open Go Go.RowKit
open Go.Proofs.YtdjffafcmomalaaDoorW.PrintWords Go.Proofs.YtdjffafcmomalaaDoor.PScr Go.Proofs.YtdjffafcmomalaaDoor.Scr Go.Proofs.YtdjffafcmomalaaDoor.Lent

/-- append, kept shut in a walk. -/
def appG (ts : Array TypeId) (t : TypeId) (xs : Array Value) : Sem Value := Builtin.append_ ts t xs
theorem appG_eq (ts : Array TypeId) (t : TypeId) (xs : Array Value) : Builtin.append_ ts t xs = appG ts t xs := rfl

theorem kd_app {P : Program} {α : Type} (d : Kd α) {W : World} (base : Nat) (t e : TypeId) (z : Value) (bytes : Nat)
    (ht : P.underlying t = some (.slice e)) (hinfo : (P.info? e).map (fun i => (i.zero, i.size, i.bytes)) = some (some z, d.sz, bytes)) (hz : z.cells.size = d.sz) (hs0 : 0 < d.sz) (hb0 : 0 < bytes)
    (v : Value) (xs : List α) (p : α) (cs : List Value) (ok okp : Nat → Prop) (hp : d.M W base okp p cs) (hokp : ∀ k, okp k → ok k ∧ some k ≠ v.ownBlock) (hfresh : ∀ k, W.heap.size ≤ k → ok k)
    (HO : d.R e W base ok v xs) (hbase : base ≤ W.heap.size) (hl : (xs.length + 1) * bytes ≤ 140737488355328) :
    ∃ g cap w1, (appG #[t, t] t #[v, .slice (some ⟨W.heap.size, 0, none⟩) 1 1]).run P (W.alloc (.cells cs.toArray e)) = .ok (.slice (some ⟨g, 0, none⟩) (xs.length + 1) cap) w1 ∧
      d.R e w1 base ok (.slice (some ⟨g, 0, none⟩) (xs.length + 1) cap) (xs ++ [p]) ∧ W.grownBy w1 v.ownBlock ∧ (v.ownBlock = some g ∨ W.heap.size ≤ g) := by
  obtain ⟨h0, inner, hown, hr⟩ := HO
  obtain ⟨i0, hi, hzz⟩ := Option.map_eq_some_iff.1 hinfo
  simp only [Prod.mk.injEq] at hzz
  obtain ⟨hz0, hz1, hz2⟩ := hzz
  have hlen : xs.length + 1 ≤ 140737488355328 := Nat.le_trans (Nat.le_mul_of_pos_right _ hb0) hl
  have hcl := d.K_len (d.K_of_M hp)
  obtain ⟨v', w1, hrun, hown', hg, _, hat⟩ := run_append_own_at (P := P) (W.alloc (.cells cs.toArray e)) base t t e i0 z d.sz bytes ht hi hz0 hz1 hz2 hz hs0 v xs.length inner (hown.alloc _) ⟨W.heap.size, 0, none⟩ 1 1 cs (by rw [hcl]; simp)
    (by simpa using World.news_of_block (cs := cs.toArray) (t := e) (fr := (0, 0)) (heap_alloc_new W (.cells cs.toArray e))) (d.K_one (d.K_of_M hp)) (by simp only [maxLen]; omega) hl (by simp; omega)
  obtain ⟨g, cap, rfl⟩ := ownsRow_succ hown'
  have hg1 : W.grownBy w1 v.ownBlock := World.grownBy.trans (World.grownBy_alloc W _ _) hg
  refine ⟨g, cap, w1, hrun, ?_, hg1, ?_⟩
  · refine Kd.R_appended h0 hr hp hokp hfresh hown' hg1 ?_
    rcases hat with hat | hat
    · exact .inl hat
    · exact .inr ⟨_, hat, by simp⟩
  · rcases hat with hat | hat
    · exact .inl hat.symm
    · right
      simp only [Value.ownBlock, Option.some.injEq] at hat
      rw [hat]; simp

/-! ### A slice value, as an element -/
structure Sl where
  A : Option Addr
  n : Nat
  c : Nat
def encS (s : Sl) : Value := .slice s.A s.n s.c
theorem encS_one (s : Sl) : (encS s).oneCell' = true := rfl
def kS : Kd Sl := Kd.scalar encS encS_one
def RG (w : World) (b : Nat) (v : Value) (gs : List Sl) : Prop := kS.R 23 w b (fun _ => True) v gs

/-! ### The family -/
structure Fam (B0 : Nat) (vs : List Value) (Ls : List (List S34)) (w : World) : Prop where
  row : ∀ (i : Nat) (v : Value) (l : List S34), vs[i]? = some v → Ls[i]? = some l → RW w B0 v l
  apart : ∀ (i j : Nat) (u v : Value), i ≠ j → vs[i]? = some u → vs[j]? = some v → ∀ k, u.ownBlock = some k → some k ≠ v.ownBlock
  len : vs.length = Ls.length

theorem Fam.at {B0 : Nat} {vs : List Value} {Ls : List (List S34)} {w : World} (h : Fam B0 vs Ls w) (i : Nat) (v : Value) (hi : vs[i]? = some v) : ∃ l, Ls[i]? = some l ∧ RW w B0 v l := by
  have hlt := (List.getElem?_eq_some_iff.1 hi).1
  have h2 : Ls[i]? = some (Ls[i]'(by rw [← h.len]; exact hlt)) := List.getElem?_eq_getElem (by rw [← h.len]; exact hlt)
  exact ⟨_, h2, h.row i v _ hi h2⟩
/-- A row of the family anew: the others stand. -/
theorem Fam.put {B0 : Nat} {vs : List Value} {Ls : List (List S34)} {w w1 : World} (h : Fam B0 vs Ls w) {i : Nat} {v v1 : Value} {l' : List S34} (hi : vs[i]? = some v) (hg : w.grownBy w1 v.ownBlock) (hr : RW w1 B0 v1 l') (hat : ∀ k, v1.ownBlock = some k → v.ownBlock = some k ∨ w.heap.size ≤ k) :
    Fam B0 (vs.set i v1) (Ls.set i l') w1 := by
  have hlt := (List.getElem?_eq_some_iff.1 hi).1
  have hlt2 : i < Ls.length := by rw [← h.len]; exact hlt
  have hlow : ∀ (j : Nat) (u : Value), vs[j]? = some u → ∀ k, u.ownBlock = some k → k < w.heap.size := fun j u hj k hk => by
    obtain ⟨l, _, hl⟩ := h.at j u hj
    exact Kd.R_lt hl k hk
  refine ⟨?_, ?_, by simp [h.len]⟩
  · intro j u l hu hl
    rw [List.getElem?_set] at hu hl
    by_cases c : i = j
    · rw [if_pos c, if_pos hlt] at hu
      rw [if_pos c, if_pos hlt2] at hl
      cases hu; cases hl
      exact hr
    · rw [if_neg c] at hu hl
      exact Kd.R_grown2 (h.row j u l hu hl) rfl hg (fun k hk => h.apart i j v u c hi hu k hk)
  · intro a b u v' hab hu hv k hk
    rw [List.getElem?_set] at hu hv
    by_cases ca : i = a
    · rw [if_pos ca, if_pos hlt] at hu
      rw [if_neg (fun e => hab (ca.symm.trans e))] at hv
      cases hu
      rcases hat k hk with h1 | h1
      · exact h.apart i b v v' (fun e => hab (ca.symm.trans e)) hi hv k h1
      · intro e
        have := hlow b v' hv k e.symm
        omega
    · rw [if_neg ca] at hu
      by_cases cb : i = b
      · rw [if_pos cb, if_pos hlt] at hv
        cases hv
        intro e
        rcases hat k e.symm with h1 | h1
        · exact h.apart a i u v (fun e' => ca e'.symm) hu hi k hk h1.symm
        · have := hlow a u hu k hk
          omega
      · rw [if_neg cb] at hv
        exact h.apart a b u v' hab hu hv k hk
theorem set_same {α : Type} {vs : List α} {i : Nat} {v : α} (h : vs[i]? = some v) : vs.set i v = vs := by
  obtain ⟨hlt, rfl⟩ := List.getElem?_eq_some_iff.1 h
  exact List.set_getElem_self hlt
/-- The family where something of another type grew, or nothing of it. -/
theorem Fam.keep {B0 : Nat} {vs : List Value} {Ls : List (List S34)} {w w1 : World} (h : Fam B0 vs Ls w) (hm : ∀ (i : Nat) (v : Value) (l : List S34), vs[i]? = some v → RW w B0 v l → RW w1 B0 v l) : Fam B0 vs Ls w1 :=
  ⟨fun i v l hi hl => hm i v l hi (h.row i v l hi hl), h.apart, h.len⟩
theorem RW.below {w w1 : World} {b : Nat} {v : Value} {l : List S34} (h : RW w b v l) (hb : Below w.heap.size w w1) : RW w1 b v l := Kd.R_below h hb
theorem RW.form {w : World} {b0 : Nat} {v : Value} {l : List S34} (h : RW w b0 v l) (hp : 0 < l.length) : ∃ g cap, v = .slice (some ⟨g, 0, none⟩) l.length cap ∧ b0 ≤ g ∧ g < w.heap.size := by
  obtain ⟨g, cap, e, h1, h2, _⟩ := Kd.R_form h hp
  exact ⟨g, cap, e, h1, h2⟩
theorem RW.sl {w : World} {b0 : Nat} {v : Value} {l : List S34} (h : RW w b0 v l) : ∃ A c, v = .slice A l.length c := Kd.R_slice h
theorem RW.c {w : World} {b : Nat} {A : Option Addr} {c : Nat} {l : List S34} (h : RW w b (.slice A l.length c) l) : Kd.C k34 w A l.length l := (Kd.R_reads' h).2.2
theorem RW.le {w : World} {b : Nat} {A : Option Addr} {c : Nat} {l : List S34} (h : RW w b (.slice A l.length c) l) : l.length ≤ c := (Kd.R_reads' h).2.1

/-- What stands besides: the block of the slices, everything elder. -/
structure Side (B0 G : Nat) (vs0 : List Value) (w0 w : World) : Prop where
  blk : w.heap[G]? = some (.cells vs0.toArray 23 (0, 0))
  bel : Below B0 w0 w
  big : B0 ≤ w.heap.size
theorem Side.grown {B0 G : Nat} {vs0 : List Value} {w0 w w1 : World} (h : Side B0 G vs0 w0 w) {row : Option Nat} (hg : w.grownBy w1 row) (h1 : row ≠ some G) (h2 : ∀ k, row = some k → B0 ≤ k) : Side B0 G vs0 w0 w1 :=
  ⟨(hg.block G (Array.getElem?_eq_some_iff.1 h.blk).1 (fun e => h1 e.symm)).trans h.blk, h.bel.grown hg h.big h2, Nat.le_trans h.big hg.size⟩
theorem Side.below {B0 G : Nat} {vs0 : List Value} {w0 w w1 : World} (h : Side B0 G vs0 w0 w) (hb : Below w.heap.size w w1) : Side B0 G vs0 w0 w1 :=
  ⟨(hb.block G (Array.getElem?_eq_some_iff.1 h.blk).1).trans h.blk, h.bel.trans (hb.mono h.big), Nat.le_trans h.big hb.size⟩
theorem Side.cell {B0 G : Nat} {vs0 : List Value} {w0 w : World} (h : Side B0 G vs0 w0 w) (i : Nat) (v : Value) (hv : vs0[i]? = some v) : w.cell? ⟨G, i, none⟩ = some v := by
  refine (blk_cell h.blk i).trans ?_
  simpa using hv
theorem row_ne {w : World} {B0 G : Nat} {v : Value} {l : List S34} {cs : Array Value} (h : RW w B0 v l) (hb : w.heap[G]? = some (.cells cs 23 (0, 0))) : v.ownBlock ≠ some G := fun e => Kd.R_ne h hb (by decide) e.symm

/-! ### The second loop: the rows are written over -/
theorem store_step {B0 G : Nat} {vs : List Value} {Ls : List (List S34)} {w0 w : World} (hf : Fam B0 vs Ls w) (hs : Side B0 G vs w0 w) {i : Nat} {v : Value} {l : List S34} (hi : vs[i]? = some v) (hl : Ls[i]? = some l) (k : Nat) (hk : k < l.length) (p : S34) :
    ∃ g cap, v = .slice (some ⟨g, 0, none⟩) l.length cap ∧
      ((∃ u, w.cell? ⟨g, k * 10, none⟩ = some (.int .i64 u)) ∧ (∃ u, w.cell? ⟨g, k * 10 + 1, none⟩ = some (.int .u16 u)) ∧ (∃ u, w.cell? ⟨g, k * 10 + 2, none⟩ = some (.bool u)) ∧ (∃ u, w.cell? ⟨g, k * 10 + 3, none⟩ = some (.bool u)) ∧ (∃ u, w.cell? ⟨g, k * 10 + 4, none⟩ = some (.bool u)) ∧ (∃ u, w.cell? ⟨g, k * 10 + 5, none⟩ = some (.bool u)) ∧ (∃ u, w.cell? ⟨g, k * 10 + 6, none⟩ = some (.bool u)) ∧ (∃ u, w.cell? ⟨g, k * 10 + 7, none⟩ = some (.bool u)) ∧ (∃ u, w.cell? ⟨g, k * 10 + 8, none⟩ = some (.bool u)) ∧ (∃ u, w.cell? ⟨g, k * 10 + 9, none⟩ = some (.int .u8 u))) ∧
      (w.frozen? ⟨g, k * 10, none⟩ = false ∧ w.frozen? ⟨g, k * 10 + 1, none⟩ = false ∧ w.frozen? ⟨g, k * 10 + 2, none⟩ = false ∧ w.frozen? ⟨g, k * 10 + 3, none⟩ = false ∧ w.frozen? ⟨g, k * 10 + 4, none⟩ = false ∧ w.frozen? ⟨g, k * 10 + 5, none⟩ = false ∧ w.frozen? ⟨g, k * 10 + 6, none⟩ = false ∧ w.frozen? ⟨g, k * 10 + 7, none⟩ = false ∧ w.frozen? ⟨g, k * 10 + 8, none⟩ = false ∧ w.frozen? ⟨g, k * 10 + 9, none⟩ = false) ∧
      Fam B0 vs (Ls.set i (l.set k p)) ((((((((((w.setCell ⟨g, k * 10, none⟩ (.int .i64 p.f0)).setCell ⟨g, k * 10 + 1, none⟩ (.int .u16 p.f1)).setCell ⟨g, k * 10 + 2, none⟩ (.bool p.f2)).setCell ⟨g, k * 10 + 3, none⟩ (.bool p.f3)).setCell ⟨g, k * 10 + 4, none⟩ (.bool p.f4)).setCell ⟨g, k * 10 + 5, none⟩ (.bool p.f5)).setCell ⟨g, k * 10 + 6, none⟩ (.bool p.f6)).setCell ⟨g, k * 10 + 7, none⟩ (.bool p.f7)).setCell ⟨g, k * 10 + 8, none⟩ (.bool p.f8)).setCell ⟨g, k * 10 + 9, none⟩ (.int .u8 p.f9)) ∧
      Side B0 G vs w0 ((((((((((w.setCell ⟨g, k * 10, none⟩ (.int .i64 p.f0)).setCell ⟨g, k * 10 + 1, none⟩ (.int .u16 p.f1)).setCell ⟨g, k * 10 + 2, none⟩ (.bool p.f2)).setCell ⟨g, k * 10 + 3, none⟩ (.bool p.f3)).setCell ⟨g, k * 10 + 4, none⟩ (.bool p.f4)).setCell ⟨g, k * 10 + 5, none⟩ (.bool p.f5)).setCell ⟨g, k * 10 + 6, none⟩ (.bool p.f6)).setCell ⟨g, k * 10 + 7, none⟩ (.bool p.f7)).setCell ⟨g, k * 10 + 8, none⟩ (.bool p.f8)).setCell ⟨g, k * 10 + 9, none⟩ (.int .u8 p.f9)) := by
  have hr := hf.row i v l hi hl
  obtain ⟨g, cap, rfl, hb, hlt⟩ := RW.form hr (by omega)
  obtain ⟨c0, c1, c2, c3, c4, c5, c6, c7, c8, c9, f0, f1, f2, f3, f4, f5, f6, f7, f8, f9, hR, hG⟩ := elem34 hr k hk p
  have hfam := hf.put (v1 := .slice (some ⟨g, 0, none⟩) l.length cap) hi hG hR (fun k hk => .inl hk)
  rw [set_same hi] at hfam
  exact ⟨g, cap, rfl, ⟨c0, c1, c2, c3, c4, c5, c6, c7, c8, c9⟩, ⟨f0, f1, f2, f3, f4, f5, f6, f7, f8, f9⟩, hfam, hs.grown hG (row_ne hr hs.blk) (fun k hk => by cases hk; exact hb)⟩

/-! ### The third loop: each row grows, and its slice goes to a row of slices -/
theorem app_step {B0 G : Nat} {vs0 vs : List Value} {Ls : List (List S34)} {w0 w : World} (hf : Fam B0 vs Ls w) (hs : Side B0 G vs0 w0 w) {i : Nat} {v : Value} {l : List S34} (hi : vs[i]? = some v) (hl : Ls[i]? = some l) (hn : l.length ≤ 1000000000000) (p : S34) {v8 : Value} {gs : List Sl} (hg8 : RG w B0 v8 gs) :
    ∃ g cap w1, (appG #[23, 23] 23 #[v, .slice (some ⟨w.heap.size, 0, none⟩) 1 1]).run Tryd.prog (w.alloc (.cells #[.int .i64 p.f0, .int .u16 p.f1, .bool p.f2, .bool p.f3, .bool p.f4, .bool p.f5, .bool p.f6, .bool p.f7, .bool p.f8, .int .u8 p.f9] 34)) = .ok (.slice (some ⟨g, 0, none⟩) (l.length + 1) cap) w1 ∧
      Fam B0 (vs.set i (.slice (some ⟨g, 0, none⟩) (l.length + 1) cap)) (Ls.set i (l ++ [p])) w1 ∧ Side B0 G vs0 w0 w1 ∧ RG w1 B0 v8 gs := by
  have hr := hf.row i v l hi hl
  obtain ⟨g, cap, w1, hrun, hR, hG, hat⟩ := kd_app k34 (P := Tryd.prog) B0 23 34 zero34v 24 Tryd.underlying23 info34 rfl (by decide) (by decide) v l p [.int .i64 p.f0, .int .u16 p.f1, .bool p.f2, .bool p.f3, .bool p.f4, .bool p.f5, .bool p.f6, .bool p.f7, .bool p.f8, .int .u8 p.f9] (fun _ => True) (fun _ => False) (k34_mkM _ _ _ p) (fun _ h => h.elim) (fun _ _ => trivial) hr hs.big (by omega)
  refine ⟨g, cap, w1, hrun, hf.put hi hG hR (fun k hk => ?_), hs.grown hG (row_ne hr hs.blk) (Kd.R_base hr), ?_⟩
  · simp only [Value.ownBlock, Option.some.injEq] at hk
    subst hk
    exact hat
  · exact Kd.R_over hg8 hr (by decide) hG
theorem info23 : (Tryd.prog.info? 23).map (fun i => (i.zero, i.size, i.bytes)) = some (some (.slice none 0 0), 1, 24) := by kernel_rfl
theorem app8_step {B0 G : Nat} {vs0 vs : List Value} {Ls : List (List S34)} {w0 w : World} (hf : Fam B0 vs Ls w) (hs : Side B0 G vs0 w0 w) {v8 : Value} {gs : List Sl} (hg8 : RG w B0 v8 gs) (hne : v8.ownBlock ≠ some G) (hn : gs.length ≤ 1000000000000) (s : Sl) :
    ∃ g cap w1, (appG #[41, 41] 41 #[v8, .slice (some ⟨w.heap.size, 0, none⟩) 1 1]).run Tryd.prog (w.alloc (.cells #[.slice s.A s.n s.c] 23)) = .ok (.slice (some ⟨g, 0, none⟩) (gs.length + 1) cap) w1 ∧
      Fam B0 vs Ls w1 ∧ Side B0 G vs0 w0 w1 ∧ RG w1 B0 (.slice (some ⟨g, 0, none⟩) (gs.length + 1) cap) (gs ++ [s]) ∧ (Value.slice (some ⟨g, 0, none⟩) (gs.length + 1) cap).ownBlock ≠ some G := by
  have hGlt : G < w.heap.size := (Array.getElem?_eq_some_iff.1 hs.blk).1
  obtain ⟨g, cap, w1, hrun, hR, hG, hat⟩ := kd_app kS (P := Tryd.prog) B0 41 23 (.slice none 0 0) 24 Tryd.underlying41 info23 rfl (by decide) (by decide) v8 gs s [.slice s.A s.n s.c] (fun _ => True) (fun _ => False) rfl (fun _ h => h.elim) (fun _ _ => trivial) hg8 hs.big (by omega)
  refine ⟨g, cap, w1, hrun, hf.keep (fun i v l _ h => Kd.R_over h hg8 (by decide) hG), hs.grown hG hne (Kd.R_base hg8), hR, ?_⟩
  intro e
  simp only [Value.ownBlock, Option.some.injEq] at e
  subst e
  rcases hat with hat | hat
  · exact hne hat
  · omega
end Go.Proofs.YtdjffafcmomalaaDoor.Own
