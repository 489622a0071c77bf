/- What the rounds of TapeSpans do to three rows of spans of the call's own: laws without a walk. -/
import Derived.Test.YtdibgdiiamcmfaaDoorTapeSpansR
import Derived.Deep.AppendLies
set_option linter.unusedVariables false
set_option linter.unusedSimpArgs false
namespace Go.Proofs.YtdibgdiiamcmfaaDoor.SpansL
open Go Go.RowKit
open Go.Proofs.YtdibgdiiamcmfaaDoorW.PrintWords Go.Proofs.YtdibgdiiamcmfaaDoor.PTape Go.Proofs.YtdibgdiiamcmfaaDoor.App

def R44 (w : World) (b : Nat) (v : Value) (l : List S44) : Prop := k44.R 44 w b (fun _ => True) v l
def Apart (u v : Value) : Prop := ∀ k, u.ownBlock = some k → some k ≠ v.ownBlock
theorem Apart.symm {u v : Value} (h : Apart u v) : Apart v u := fun k hk e => h k e.symm hk.symm
def fill (p : S44) (i : Nat) (l : List S44) : List S44 := List.replicate i p ++ l.drop i
theorem fill_len (p : S44) (i : Nat) (l : List S44) (h : i ≤ l.length) : (fill p i l).length = l.length := by simp [fill]; omega
theorem fill_zero (p : S44) (l : List S44) : fill p 0 l = l := by simp [fill]
theorem fill_all (p : S44) (l : List S44) : fill p l.length l = List.replicate l.length p := by simp [fill]
theorem fill_set (p : S44) (i : Nat) (l : List S44) (h : i < l.length) : (fill p i l).set i p = fill p (i + 1) l := by
  unfold fill
  rw [List.set_append_right _ _ (by simp), List.length_replicate, Nat.sub_self, List.drop_eq_getElem_cons h, List.set_cons_zero, List.replicate_succ', List.append_assoc]
  rfl

theorem R44.keep {w w1 : World} {b0 : Nat} {u : Value} {l : List S44} {row : Option Nat} (h : R44 w b0 u l) (hg : w.grownBy w1 row) (hne : ∀ k, row = some k → some k ≠ u.ownBlock) : R44 w1 b0 u l :=
  Kd.R_grown2 h rfl hg hne

/-- The world behind a store of a whole span. -/
def put44 (w : World) (g i : Nat) (p : S44) : World := ((((((((((w.setCell ⟨g, i * 10, none⟩ (.int .i64 p.f0)).setCell ⟨g, i * 10 + 1, none⟩ (.int .u16 p.f1)).setCell ⟨g, i * 10 + 2, none⟩ (.bool p.f2)).setCell ⟨g, i * 10 + 3, none⟩ (.bool p.f3)).setCell ⟨g, i * 10 + 4, none⟩ (.bool p.f4)).setCell ⟨g, i * 10 + 5, none⟩ (.bool p.f5)).setCell ⟨g, i * 10 + 6, none⟩ (.bool p.f6)).setCell ⟨g, i * 10 + 7, none⟩ (.bool p.f7)).setCell ⟨g, i * 10 + 8, none⟩ (.bool p.f8)).setCell ⟨g, i * 10 + 9, none⟩ (.int .u8 p.f9))
theorem elem44 {w : World} {b0 g n cap : Nat} {l : List S44} (h : R44 w b0 (.slice (some ⟨g, 0, none⟩) n cap) l) (i : Nat) (hi : i < n) (p : S44) :
    ((∃ u, w.cell? ⟨g, i * 10, none⟩ = some (.int .i64 u)) ∧ (∃ u, w.cell? ⟨g, i * 10 + 1, none⟩ = some (.int .u16 u)) ∧ (∃ u, w.cell? ⟨g, i * 10 + 2, none⟩ = some (.bool u)) ∧ (∃ u, w.cell? ⟨g, i * 10 + 3, none⟩ = some (.bool u)) ∧ (∃ u, w.cell? ⟨g, i * 10 + 4, none⟩ = some (.bool u)) ∧ (∃ u, w.cell? ⟨g, i * 10 + 5, none⟩ = some (.bool u)) ∧ (∃ u, w.cell? ⟨g, i * 10 + 6, none⟩ = some (.bool u)) ∧ (∃ u, w.cell? ⟨g, i * 10 + 7, none⟩ = some (.bool u)) ∧ (∃ u, w.cell? ⟨g, i * 10 + 8, none⟩ = some (.bool u)) ∧ (∃ u, w.cell? ⟨g, i * 10 + 9, none⟩ = some (.int .u8 u))) ∧ (∀ k, w.frozen? ⟨g, i * 10 + k, none⟩ = false) ∧
    R44 (put44 w g i p) b0 (.slice (some ⟨g, 0, none⟩) n cap) (l.set i p) ∧ w.grownBy (put44 w g i p) (some g) := by
  obtain ⟨ce, hcl, hM, hcc, hfr⟩ := Kd.R_elem h z44 (i : Int) (by omega) (by omega)
  obtain rfl := k44_openM hM
  have HP := Kd.R_seg h (i : Int) (by omega) (by omega) (seg := [.int .i64 p.f0, .int .u16 p.f1, .bool p.f2, .bool p.f3, .bool p.f4, .bool p.f5, .bool p.f6, .bool p.f7, .bool p.f8, .int .u8 p.f9]) (j := 0) hcl hcc (show 10 ≤ 10 from by decide) (x' := p) (k44_mkM _ _ _ p) (fun _ hk => hk)
  exact ⟨⟨⟨_, hcc 0 _ rfl⟩, ⟨_, hcc 1 _ rfl⟩, ⟨_, hcc 2 _ rfl⟩, ⟨_, hcc 3 _ rfl⟩, ⟨_, hcc 4 _ rfl⟩, ⟨_, hcc 5 _ rfl⟩, ⟨_, hcc 6 _ rfl⟩, ⟨_, hcc 7 _ rfl⟩, ⟨_, hcc 8 _ rfl⟩, ⟨_, hcc 9 _ rfl⟩⟩, hfr, HP.1, HP.2⟩

structure Ph1 (p : S44) (b0 : Nat) (va vb vu : Value) (l : List S44) (w0 : World) (i : Nat) (w : World) : Prop where
  le : i ≤ l.length
  a : R44 w b0 va (fill p i l)
  b : R44 w b0 vb l
  u : R44 w b0 vu l
  bel : Below b0 w0 w
  big : b0 ≤ w.heap.size

theorem Ph1.step {p : S44} {b0 : Nat} {va vb vu : Value} {l : List S44} {w0 w : World} {i : Nat} (h : Ph1 p b0 va vb vu l w0 i w) (hab : Apart va vb) (hau : Apart va vu) (hi : i < l.length) :
    ∃ g cap, va = .slice (some ⟨g, 0, none⟩) l.length cap ∧ ((∃ u, w.cell? ⟨g, i * 10, none⟩ = some (.int .i64 u)) ∧ (∃ u, w.cell? ⟨g, i * 10 + 1, none⟩ = some (.int .u16 u)) ∧ (∃ u, w.cell? ⟨g, i * 10 + 2, none⟩ = some (.bool u)) ∧ (∃ u, w.cell? ⟨g, i * 10 + 3, none⟩ = some (.bool u)) ∧ (∃ u, w.cell? ⟨g, i * 10 + 4, none⟩ = some (.bool u)) ∧ (∃ u, w.cell? ⟨g, i * 10 + 5, none⟩ = some (.bool u)) ∧ (∃ u, w.cell? ⟨g, i * 10 + 6, none⟩ = some (.bool u)) ∧ (∃ u, w.cell? ⟨g, i * 10 + 7, none⟩ = some (.bool u)) ∧ (∃ u, w.cell? ⟨g, i * 10 + 8, none⟩ = some (.bool u)) ∧ (∃ u, w.cell? ⟨g, i * 10 + 9, none⟩ = some (.int .u8 u))) ∧ (∀ k, w.frozen? ⟨g, i * 10 + k, none⟩ = false) ∧
      Ph1 p b0 va vb vu l w0 (i + 1) (put44 w g i p) := by
  have hl := fill_len p i l h.le
  obtain ⟨g, cap, rfl, hb, hlt, _⟩ := Kd.R_form h.a (by omega)
  have ha := h.a
  obtain ⟨c0, f0, hR, hG⟩ := elem44 ha i (by omega) p
  rw [fill_set p i l hi] at hR
  rw [hl] at hab hau hR ⊢
  refine ⟨g, cap, rfl, c0, f0, ⟨hi, hR, h.b.keep hG ?_, h.u.keep hG ?_, h.bel.grown hG h.big (fun k hk => by cases hk; exact hb), Nat.le_trans h.big hG.size⟩⟩
  · intro k hk; cases hk; exact hab g rfl
  · intro k hk; cases hk; exact hau g rfl

structure Ph2 (px : S44) (b0 : Nat) (vb vu : Value) (m l : List S44) (w0 : World) (i : Nat) (vx : Value) (w : World) : Prop where
  x : R44 w b0 vx (m ++ List.replicate i px)
  b : R44 w b0 vb l
  u : R44 w b0 vu l
  xb : Apart vx vb
  xu : Apart vx vu
  bel : Below b0 w0 w
  big : b0 ≤ w.heap.size

theorem apart_new {w : World} {g : Nat} {v u : Value} {n cap : Nat} (h : v.ownBlock = some g ∨ w.heap.size ≤ g) (hv : Apart v u) (hu : ∀ k, u.ownBlock = some k → k < w.heap.size) : Apart (.slice (some ⟨g, 0, none⟩) n cap) u := by
  intro k hk
  simp only [Value.ownBlock, Option.some.injEq] at hk
  subst hk
  rcases h with h | h
  · exact hv _ h
  · intro e; have := hu _ e.symm; omega

theorem Ph2.step {px : S44} {b0 : Nat} {vb vu : Value} {m l : List S44} {w0 w : World} {i : Nat} {vx : Value} (h : Ph2 px b0 vb vu m l w0 i vx w) (hl : m.length + i + 1 ≤ 1000000000000) :
    ∃ g cap w1, (appG #[39, 39] 39 #[vx, .slice (some ⟨w.heap.size, 0, none⟩) 1 1]).run Tryd.prog (w.alloc (.cells #[.int .i64 px.f0, .int .u16 px.f1, .bool px.f2, .bool px.f3, .bool px.f4, .bool px.f5, .bool px.f6, .bool px.f7, .bool px.f8, .int .u8 px.f9] 44)) = .ok (.slice (some ⟨g, 0, none⟩) (m.length + (i + 1)) cap) w1 ∧
      Ph2 px b0 vb vu m l w0 (i + 1) (.slice (some ⟨g, 0, none⟩) (m.length + (i + 1)) cap) w1 := by
  obtain ⟨g, cap, w1, hrun, hR, hG, hat⟩ := app44 b0 vx _ [px] _ 1 rfl (Reps.c10 (k44_mk w px) (Reps.none _ _)) (fun _ => True) (fun _ _ => trivial) h.x h.big (by simp; omega) (by decide) w.heap.size rfl
  have hn : (m ++ List.replicate i px).length + 1 = m.length + (i + 1) := by simp; omega
  have hm : (m ++ List.replicate i px) ++ [px] = m ++ List.replicate (i + 1) px := by rw [List.append_assoc, List.replicate_succ']
  rw [hn] at hrun hR
  rw [hm] at hR
  exact ⟨g, cap, w1, hrun, hR, h.b.keep hG (fun k hk => h.xb k hk), h.u.keep hG (fun k hk => h.xu k hk), apart_new hat h.xb (Kd.R_lt h.b), apart_new hat h.xu (Kd.R_lt h.u), h.bel.grown hG h.big (Kd.R_base h.x), Nat.le_trans h.big hG.size⟩

theorem Ph1.ends {p : S44} {b0 : Nat} {va vb vu : Value} {l : List S44} {w0 w : World} (px : S44) (h : Ph1 p b0 va vb vu l w0 l.length w) (hab : Apart va vb) (hau : Apart va vu) :
    Ph2 px b0 vb vu (List.replicate l.length p) l w0 0 va w := by
  have ha := h.a
  rw [fill_all] at ha
  exact ⟨by simpa using ha, h.b, h.u, hab, hau, h.bel, h.big⟩

theorem apart_old {w1 w2 : World} {b : Nat} {u v : Value} {l l' : List S44} (hu : R44 w1 b u l) (hv : R44 w2 w1.heap.size v l') : Apart u v := by
  intro k hk e
  have h1 := Kd.R_lt hu k hk
  have h2 := Kd.R_base hv k e.symm
  omega
theorem R44.reads {w : World} {b0 : Nat} {v : Value} {l : List S44} (h : R44 w b0 v l) : ∃ A c, v = .slice A l.length c := by
  obtain ⟨A, c, e, _⟩ := Kd.R_reads h
  exact ⟨A, c, e⟩
end Go.Proofs.YtdibgdiiamcmfaaDoor.SpansL
