/- What the rounds of TapeReads do to three rows of bytes of the call's own: laws without a walk. -/
import Derived.Test.YtdibgdiiamcmfaaDoorTapeApp
import Derived.Deep.AppendLies
set_option linter.unusedVariables false
set_option linter.unusedSimpArgs false
namespace Go.Proofs.YtdibgdiiamcmfaaDoor.ReadsL
open Go Go.RowKit
open Go.Proofs.YtdibgdiiamcmfaaDoorW.PrintWords Go.Proofs.YtdibgdiiamcmfaaDoor.PTape Go.Proofs.YtdibgdiiamcmfaaDoor.App

def R8 (w : World) (b : Nat) (v : Value) (l : List Int) : Prop := (Kd.int .u8).R 5 w b (fun _ => True) v l
def Apart (u v : Value) : Prop := ∀ k, u.ownBlock = some k → some k ≠ v.ownBlock
theorem Apart.symm {u v : Value} (h : Apart u v) : Apart v u := fun k hk e => h k e.symm hk.symm
def fill (p : Int) (i : Nat) (l : List Int) : List Int := List.replicate i p ++ l.drop i
theorem fill_len (p : Int) (i : Nat) (l : List Int) (h : i ≤ l.length) : (fill p i l).length = l.length := by simp [fill]; omega
theorem fill_zero (p : Int) (l : List Int) : fill p 0 l = l := by simp [fill]
theorem fill_all (p : Int) (l : List Int) : fill p l.length l = List.replicate l.length p := by simp [fill]
theorem fill_set (p : Int) (i : Nat) (l : List Int) (h : i < l.length) : (fill p i l).set i p = fill p (i + 1) l := by
  unfold fill
  rw [List.set_append_right _ _ (by simp), List.length_replicate, Nat.sub_self, List.drop_eq_getElem_cons h, List.set_cons_zero, List.replicate_succ', List.append_assoc]
  rfl

theorem R8.keep {w w1 : World} {b0 : Nat} {u : Value} {l : List Int} {row : Option Nat} (h : R8 w b0 u l) (hg : w.grownBy w1 row) (hne : ∀ k, row = some k → some k ≠ u.ownBlock) : R8 w1 b0 u l :=
  Kd.R_grown2 h rfl hg hne

theorem elem8 {w : World} {b0 g cap : Nat} {l : List Int} (h : R8 w b0 (.slice (some ⟨g, 0, none⟩) l.length cap) l) (i : Nat) (hi : i < l.length) (p : Int) :
    (∃ u, w.cell? ⟨g, i, none⟩ = some (.int .u8 u)) ∧ w.frozen? ⟨g, i, none⟩ = false ∧
    R8 (w.setCell ⟨g, i, none⟩ (.int .u8 p)) b0 (.slice (some ⟨g, 0, none⟩) l.length cap) (l.set i p) ∧ w.grownBy (w.setCell ⟨g, i, none⟩ (.int .u8 p)) (some g) := by
  obtain ⟨q0, f0⟩ := Kd.R_cell (0 : Int) h (i : Int) (by omega) (by omega)
  obtain ⟨hS, hG⟩ := Kd.R_put h (i : Int) p
  simp only [Int.toNat_natCast] at q0 f0 hS hG
  exact ⟨⟨_, q0⟩, f0, hS, hG⟩

structure Ph1 (p : Int) (b0 : Nat) (va vb vu : Value) (l : List Int) (w0 : World) (i : Nat) (w : World) : Prop where
  le : i ≤ l.length
  a : R8 w b0 va (fill p i l)
  b : R8 w b0 vb l
  u : R8 w b0 vu l
  bel : Below b0 w0 w

theorem Ph1.step {p : Int} {b0 : Nat} {va vb vu : Value} {l : List Int} {w0 w : World} {i : Nat} (h : Ph1 p b0 va vb vu l w0 i w) (hab : Apart va vb) (hau : Apart va vu) (hi : i < l.length) :
    ∃ g cap, va = .slice (some ⟨g, 0, none⟩) l.length cap ∧ (∃ u, w.cell? ⟨g, i, none⟩ = some (.int .u8 u)) ∧ w.frozen? ⟨g, i, none⟩ = false ∧
      Ph1 p b0 va vb vu l w0 (i + 1) (w.setCell ⟨g, i, none⟩ (.int .u8 p)) := by
  have hl := fill_len p i l h.le
  obtain ⟨g, cap, rfl, hb, hlt, _⟩ := Kd.R_form h.a (by omega)
  have ha := h.a
  obtain ⟨c0, f0, hR, hG⟩ := elem8 ha i (by omega) p
  rw [fill_set p i l hi] at hR
  rw [hl] at hab hau hR ⊢
  refine ⟨g, cap, rfl, c0, f0, ⟨hi, hR, h.b.keep hG ?_, h.u.keep hG ?_, h.bel.setCell hb _⟩⟩
  · intro k hk; cases hk; exact hab g rfl
  · intro k hk; cases hk; exact hau g rfl

structure Ph2 (px : Int) (b0 : Nat) (vb vu : Value) (m l : List Int) (w0 : World) (i : Nat) (vx : Value) (w : World) : Prop where
  x : R8 w b0 vx (m ++ List.replicate i px)
  b : R8 w b0 vb l
  u : R8 w b0 vu l
  xb : Apart vx vb
  xu : Apart vx vu
  bel : Below b0 w0 w
  big : b0 ≤ w.heap.size

theorem apart_new {w : World} {g : Nat} {v u : Value} {n cap : Nat} (h : v.ownBlock = some g ∨ w.heap.size ≤ g) (hv : Apart v u) (hu : ∀ k, u.ownBlock = some k → k < w.heap.size) : Apart (.slice (some ⟨g, 0, none⟩) n cap) u := by
  intro k hk
  simp only [Value.ownBlock, Option.some.injEq] at hk
  subst hk
  rcases h with h | h
  · exact hv _ h
  · intro e; have := hu _ e.symm; omega

/-- append of one byte to bytes of the call's own. -/
theorem app8 {W : World} (base : Nat) (v : Value) (xs : List Int) (p : Int) (HO : R8 W base v xs) (hbase : base ≤ W.heap.size) (hl : xs.length + 1 ≤ 1000000000000) :
    ∃ g cap w1, (appG #[23, 23] 23 #[v, .slice (some ⟨W.heap.size, 0, none⟩) 1 1]).run Tryd.prog (W.alloc (.cells #[.int .u8 p] 5)) = .ok (.slice (some ⟨g, 0, none⟩) (xs.length + 1) cap) w1 ∧
      R8 w1 base (.slice (some ⟨g, 0, none⟩) (xs.length + 1) cap) (xs ++ [p]) ∧ W.grownBy w1 v.ownBlock ∧ (v.ownBlock = some g ∨ W.heap.size ≤ g) := by
  obtain ⟨h0, inner, hown, hr⟩ := HO
  obtain ⟨i0, hi, hzz⟩ := Option.map_eq_some_iff.1 info5
  simp only [Prod.mk.injEq] at hzz
  obtain ⟨hz0, hz1, hz2⟩ := hzz
  obtain ⟨v', w1, hrun, hown', hg, _, hat⟩ := run_append_own_at (P := Tryd.prog) (W.alloc (.cells #[.int .u8 p] 5)) base 23 23 5 i0 (.int .u8 0) 1 1 Tryd.underlying23 hi hz0 hz1 hz2 rfl (by decide) v xs.length inner (hown.alloc _) ⟨W.heap.size, 0, none⟩ 1 1 [.int .u8 p] rfl
    (by simpa using World.news_of_block (cs := #[Value.int .u8 p]) (t := 5) (fr := (0, 0)) (heap_alloc_new W (.cells #[.int .u8 p] 5))) (by simp [Value.oneCell']) (by simp only [maxLen]; omega) (by omega) (by simp; omega)
  obtain ⟨g, cap, rfl⟩ := ownsRow_succ hown'
  have hg1 : W.grownBy w1 v.ownBlock := World.grownBy.trans (World.grownBy_alloc W _ _) hg
  refine ⟨g, cap, w1, hrun, ?_, hg1, ?_⟩
  · refine Kd.R_appended (d := Kd.int .u8) h0 hr (p := p) (cs := [.int .u8 p]) (okp := fun _ => False) rfl (fun _ h => h.elim) (fun _ _ => trivial) hown' hg1 ?_
    rcases hat with hat | hat
    · exact .inl hat
    · exact .inr ⟨_, hat, by simp⟩
  · rcases hat with hat | hat
    · exact .inl hat.symm
    · right
      simp only [Value.ownBlock, Option.some.injEq] at hat
      rw [hat]; simp

theorem Ph2.step {px : Int} {b0 : Nat} {vb vu : Value} {m l : List Int} {w0 w : World} {i : Nat} {vx : Value} (h : Ph2 px b0 vb vu m l w0 i vx w) (hl : m.length + i + 1 ≤ 1000000000000) :
    ∃ g cap w1, (appG #[23, 23] 23 #[vx, .slice (some ⟨w.heap.size, 0, none⟩) 1 1]).run Tryd.prog (w.alloc (.cells #[.int .u8 px] 5)) = .ok (.slice (some ⟨g, 0, none⟩) (m.length + (i + 1)) cap) w1 ∧
      Ph2 px b0 vb vu m l w0 (i + 1) (.slice (some ⟨g, 0, none⟩) (m.length + (i + 1)) cap) w1 := by
  obtain ⟨g, cap, w1, hrun, hR, hG, hat⟩ := app8 b0 vx _ px h.x h.big (by simp; omega)
  have hn : (m ++ List.replicate i px).length + 1 = m.length + (i + 1) := by simp; omega
  have hm : (m ++ List.replicate i px) ++ [px] = m ++ List.replicate (i + 1) px := by rw [List.append_assoc, List.replicate_succ']
  rw [hn] at hrun hR
  rw [hm] at hR
  exact ⟨g, cap, w1, hrun, hR, h.b.keep hG (fun k hk => h.xb k hk), h.u.keep hG (fun k hk => h.xu k hk), apart_new hat h.xb (Kd.R_lt h.b), apart_new hat h.xu (Kd.R_lt h.u), h.bel.grown hG h.big (Kd.R_base h.x), Nat.le_trans h.big hG.size⟩

theorem Ph1.ends {p : Int} {b0 : Nat} {va vb vu : Value} {l : List Int} {w0 w : World} (px : Int) (h : Ph1 p b0 va vb vu l w0 l.length w) (hab : Apart va vb) (hau : Apart va vu) (big : b0 ≤ w.heap.size) :
    Ph2 px b0 vb vu (List.replicate l.length p) l w0 0 va w := by
  have ha := h.a
  rw [fill_all] at ha
  exact ⟨by simpa using ha, h.b, h.u, hab, hau, h.bel, big⟩

theorem apart_old {w1 w2 : World} {b : Nat} {u v : Value} {l l' : List Int} (hu : R8 w1 b u l) (hv : R8 w2 w1.heap.size v l') : Apart u v := by
  intro k hk e
  have h1 := Kd.R_lt hu k hk
  have h2 := Kd.R_base hv k e.symm
  omega
theorem R8.reads {w : World} {b0 : Nat} {v : Value} {l : List Int} (h : R8 w b0 v l) : ∃ A c, v = .slice A l.length c := by
  obtain ⟨A, c, e, _⟩ := Kd.R_reads h
  exact ⟨A, c, e⟩
theorem R8.str {w : World} {b0 : Nat} {v : Value} {l : List Int} (h : R8 w b0 v l) : (convert 23 9 v).run Tryd.prog w = .ok (.string (strOfNums l)) w :=
  own_string (P := Tryd.prog) Tryd.underlying23 Tryd.underlying5 Tryd.underlying9 (Kd.own_of_R h)
end Go.Proofs.YtdibgdiiamcmfaaDoor.ReadsL
