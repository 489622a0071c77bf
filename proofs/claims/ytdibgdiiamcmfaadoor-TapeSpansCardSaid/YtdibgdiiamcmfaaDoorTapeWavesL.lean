/- What the rounds of vesperlaw12.waves do to three rows of waves of the call's own: laws without a walk. -/
import Derived.Test.YtdibgdiiamcmfaaDoorTapeElder
import Derived.Test.YtdibgdiiamcmfaaDoorPTapex4
import Derived.Deep.AppendLies
set_option linter.unusedVariables false
set_option linter.unusedSimpArgs false
namespace Go.Proofs.YtdibgdiiamcmfaaDoor.Waves
open Go Go.RowKit
open Go.Proofs.YtdibgdiiamcmfaaDoorW.PrintWords Go.Proofs.YtdibgdiiamcmfaaDoor.PTape Go.Proofs.YtdibgdiiamcmfaaDoor.App Go.Proofs.YtdibgdiiamcmfaaDoor.Elder

def RW (w : World) (b : Nat) (v : Value) (l : List S37) : Prop := k37.R 37 w b (fun _ => True) v l
def Apart (u v : Value) : Prop := ∀ k, u.ownBlock = some k → some k ≠ v.ownBlock
theorem Apart.symm {u v : Value} (h : Apart u v) : Apart v u := fun k hk e => h k e.symm hk.symm

theorem same_f (l : List S37) (hl : l.length ≤ 1000000000000) : vesperref12_Same.f (l.length + 1) l l = some true := by
  unfold vesperref12_Same.f
  rw [if_pos rfl]
  have key : ∀ (d i : Nat), l.length = i + d → vesperref12_Same.l0 (d + 1) l l (i : Int) = some true := by
    intro d
    induction d with
    | zero => intro i h; rw [vesperref12_Same.l0, if_neg (by omega)]
    | succ d ih =>
      intro i h
      rw [vesperref12_Same.l0, if_pos (by omega), if_pos (by omega), if_pos (by omega), if_neg (by simp)]
      rw [show wrap64 ((i : Int) + 1) = ((i + 1 : Nat) : Int) by unfold wrap64; omega]
      exact ih (i + 1) (by omega)
  exact key l.length 0 (by omega)

/-- The list behind i stores of one wave. -/
def fill (p : S37) (i : Nat) (l : List S37) : List S37 := List.replicate i p ++ l.drop i
theorem fill_len (p : S37) (i : Nat) (l : List S37) (h : i ≤ l.length) : (fill p i l).length = l.length := by simp [fill]; omega
theorem fill_zero (p : S37) (l : List S37) : fill p 0 l = l := by simp [fill]
theorem fill_all (p : S37) (l : List S37) : fill p l.length l = List.replicate l.length p := by simp [fill]
theorem fill_set (p : S37) (i : Nat) (l : List S37) (h : i < l.length) : (fill p i l).set i p = fill p (i + 1) l := by
  unfold fill
  rw [List.set_append_right _ _ (by simp), List.length_replicate, Nat.sub_self, List.drop_eq_getElem_cons h, List.set_cons_zero, List.replicate_succ', List.append_assoc]
  rfl

theorem reads {w : World} {b0 : Nat} {v : Value} {l : List S37} (h : RW w b0 v l) : ∃ A c, v = .slice A l.length c ∧ l.length ≤ c ∧ Kd.C k37 w A l.length l := Kd.R_reads h

/-- One element of a row that is stored anew. -/
theorem elem37 {w : World} {b0 g n cap : Nat} {l : List S37} (h : RW w b0 (.slice (some ⟨g, 0, none⟩) n cap) l) (i : Nat) (hi : i < n) (p : S37) :
    (∃ u, w.cell? ⟨g, i * 2, none⟩ = some (.int .i64 u)) ∧ (∃ u, w.cell? ⟨g, i * 2 + 1, none⟩ = some (.int .i64 u)) ∧ w.frozen? ⟨g, i * 2, none⟩ = false ∧ w.frozen? ⟨g, i * 2 + 1, none⟩ = false ∧
    RW ((w.setCell ⟨g, i * 2, none⟩ (.int .i64 p.f0)).setCell ⟨g, i * 2 + 1, none⟩ (.int .i64 p.f1)) b0 (.slice (some ⟨g, 0, none⟩) n cap) (l.set i p) ∧
    w.grownBy ((w.setCell ⟨g, i * 2, none⟩ (.int .i64 p.f0)).setCell ⟨g, i * 2 + 1, none⟩ (.int .i64 p.f1)) (some g) := by
  obtain ⟨ce, hcl, hM, hcc, hfr⟩ := Kd.R_elem h ⟨0, 0⟩ (i : Int) (by omega) (by omega)
  obtain rfl := k37_openM hM
  have HP := Kd.R_seg h (i : Int) (by omega) (by omega) (seg := [.int .i64 p.f0, .int .i64 p.f1]) (j := 0) hcl hcc (show 2 ≤ 2 from by decide) (x' := p) (k37_mkM _ _ _ p) (fun _ hk => hk)
  exact ⟨⟨_, hcc 0 _ rfl⟩, ⟨_, hcc 1 _ rfl⟩, hfr 0, hfr 1, HP.1, HP.2⟩

theorem RW.form {w : World} {b0 : Nat} {v : Value} {l : List S37} (h : RW w b0 v l) (hp : 0 < l.length) : ∃ g cap, v = .slice (some ⟨g, 0, none⟩) l.length cap ∧ b0 ≤ g ∧ g < w.heap.size := by
  obtain ⟨g, cap, e, h1, h2, _⟩ := Kd.R_form h hp
  exact ⟨g, cap, e, h1, h2⟩
theorem RW.keep {w w1 : World} {b0 : Nat} {u : Value} {l : List S37} {row : Option Nat} (h : RW w b0 u l) (hg : w.grownBy w1 row) (hne : ∀ k, row = some k → some k ≠ u.ownBlock) : RW w1 b0 u l :=
  Kd.R_grown2 h rfl hg hne

/-- Phase one: i stores into a. -/
structure Ph1 (p : S37) (b0 : Nat) (va vb vu : Value) (l : List S37) (w0 : World) (i : Nat) (w : World) : Prop where
  le : i ≤ l.length
  a : RW w b0 va (fill p i l)
  b : RW w b0 vb l
  u : RW w b0 vu l
  bel : Below b0 w0 w

theorem Ph1.step {p : S37} {b0 : Nat} {va vb vu : Value} {l : List S37} {w0 w : World} {i : Nat} (h : Ph1 p b0 va vb vu l w0 i w) (hab : Apart va vb) (hau : Apart va vu) (hi : i < l.length) :
    ∃ g cap, va = .slice (some ⟨g, 0, none⟩) l.length cap ∧ (∃ u, w.cell? ⟨g, i * 2, none⟩ = some (.int .i64 u)) ∧ (∃ u, w.cell? ⟨g, i * 2 + 1, none⟩ = some (.int .i64 u)) ∧ w.frozen? ⟨g, i * 2, none⟩ = false ∧ w.frozen? ⟨g, i * 2 + 1, none⟩ = false ∧
      Ph1 p b0 va vb vu l w0 (i + 1) ((w.setCell ⟨g, i * 2, none⟩ (.int .i64 p.f0)).setCell ⟨g, i * 2 + 1, none⟩ (.int .i64 p.f1)) := by
  have hl := fill_len p i l h.le
  obtain ⟨g, cap, rfl, hb, hlt⟩ := h.a.form (by omega)
  rw [hl] at hab hau
  have ha := h.a
  rw [hl] at ha
  obtain ⟨c0, c1, f0, f1, hR, hG⟩ := elem37 ha i hi p
  rw [hl]
  refine ⟨g, cap, rfl, c0, c1, f0, f1, ⟨hi, ?_, h.b.keep hG ?_, h.u.keep hG ?_, ?_⟩⟩
  · rw [← fill_set p i l hi]; exact hR
  · intro k hk; cases hk; exact hab g rfl
  · intro k hk; cases hk; exact hau g rfl
  · exact (h.bel.setCell hb _).setCell hb _

/-- Phase two: i waves behind a, j behind b. B is b's place. -/
structure Ph2 (px py : S37) (b0 : Nat) (B : Option Addr) (c : Nat) (vu : Value) (m l : List S37) (w0 : World) (i j : Nat) (vx vy : Value) (w : World) : Prop where
  x : RW w b0 vx (m ++ List.replicate i px)
  y : RW w b0 vy (l ++ List.replicate j py)
  u : RW w b0 vu l
  xy : Apart vx vy
  xb : Apart vx (.slice B l.length c)
  xu : Apart vx vu
  yu : Apart vy vu
  b : vy.ownBlock = (Value.slice B l.length c).ownBlock ∨ Kd.C k37 w B l.length l ∧ Apart vy (.slice B l.length c)
  bel : Below b0 w0 w
  big : b0 ≤ w.heap.size
  blt : ∀ k, (Value.slice B l.length c).ownBlock = some k → k < w.heap.size
  b00 : ∀ ad, B = some ad → ad = ⟨ad.block, 0, none⟩
  bn : B = none → l = []

theorem apart_new {w : World} {g : Nat} {v u : Value} {n cap : Nat} (h : v.ownBlock = some g ∨ w.heap.size ≤ g) (hv : Apart v u) (hu : ∀ k, u.ownBlock = some k → k < w.heap.size) : Apart (.slice (some ⟨g, 0, none⟩) n cap) u := by
  intro k hk
  simp only [Value.ownBlock, Option.some.injEq] at hk
  subst hk
  rcases h with h | h
  · exact hv _ h
  · intro e; have := hu _ e.symm; omega

theorem size_le {w w1 : World} {row : Option Nat} (hg : w.grownBy w1 row) : w.heap.size ≤ w1.heap.size := hg.size

theorem C_grown {w w1 : World} {row : Option Nat} {A : Option Addr} {n : Nat} {xs : List S37} (h : Kd.C k37 w A n xs) (hg : w.grownBy w1 row) (hne : ∀ ad, A = some ad → some ad.block ≠ row) : Kd.C k37 w1 A n xs := by
  obtain ⟨h0, h1, h2⟩ := h
  refine ⟨h0, h1, fun hp => ?_⟩
  obtain ⟨ad, e, hh⟩ := h2 hp
  refine ⟨ad, e, fun j p hj => ?_⟩
  obtain ⟨cs, hl, hK, hc⟩ := hh j p hj
  refine ⟨cs, hl, hK, fun i u hu => ?_⟩
  have := hc i u hu
  rw [hg.cell_far _ (World.block_lt_of_cell? w _ this) (by have := hne ad e; unfold Addr.add; split <;> exact this)]
  exact this

theorem own_some {B : Option Addr} {n c : Nat} {ad : Addr} (h00 : ∀ ad, B = some ad → ad = ⟨ad.block, 0, none⟩) (h : B = some ad) : (Value.slice B n c).ownBlock = some ad.block := by
  subst h
  rw [h00 ad rfl]
  rfl

theorem Ph2.stepx {px py : S37} {b0 c : Nat} {B : Option Addr} {vu : Value} {m l : List S37} {w0 w : World} {i j : Nat} {vx vy : Value} (h : Ph2 px py b0 B c vu m l w0 i j vx vy w) (hl : m.length + i + 1 ≤ 1000000000000) :
    ∃ g cap w1, (appG #[24, 24] 24 #[vx, .slice (some ⟨w.heap.size, 0, none⟩) 1 1]).run Tryd.prog (w.alloc (.cells #[.int .i64 px.f0, .int .i64 px.f1] 37)) = .ok (.slice (some ⟨g, 0, none⟩) (m.length + (i + 1)) cap) w1 ∧
      Ph2 px py b0 B c vu m l w0 (i + 1) j (.slice (some ⟨g, 0, none⟩) (m.length + (i + 1)) cap) vy w1 := by
  obtain ⟨g, cap, w1, hrun, hR, hG, hat, _⟩ := app37 b0 vx _ px h.x h.big (by simp; omega)
  have hn : (m ++ List.replicate i px).length + 1 = m.length + (i + 1) := by simp; omega
  have hm : (m ++ List.replicate i px) ++ [px] = m ++ List.replicate (i + 1) px := by rw [List.append_assoc, List.replicate_succ']
  rw [hn] at hrun hR
  rw [hm] at hR
  refine ⟨g, cap, w1, hrun, hR, h.y.keep hG (fun k hk => h.xy k hk), h.u.keep hG (fun k hk => h.xu k hk), apart_new hat h.xy (Kd.R_lt h.y), apart_new hat h.xb h.blt, apart_new hat h.xu (Kd.R_lt h.u), h.yu, ?_, h.bel.grown hG h.big (Kd.R_base h.x), Nat.le_trans h.big (size_le hG), fun k hk => Nat.lt_of_lt_of_le (h.blt k hk) (size_le hG), h.b00, h.bn⟩
  rcases h.b with hb | ⟨hb, ha⟩
  · exact .inl hb
  · exact .inr ⟨C_grown hb hG (fun ad e hk => h.xb _ hk.symm (own_some h.b00 e).symm), ha⟩

theorem prefix_row {w : World} {b0 : Nat} {vy : Value} {l l2 : List S37} {B : Option Addr} {c : Nat} (hy : RW w b0 vy (l ++ l2)) (hB : ∀ ad, B = some ad → ad = ⟨ad.block, 0, none⟩) (h0 : B = none → l = []) (e : vy.ownBlock = (Value.slice B l.length c).ownBlock) : Kd.C k37 w B l.length l := by
  cases B with
  | none => obtain rfl := h0 rfl; exact Kd.C_nil _ _
  | some ad =>
    have had := hB ad rfl
    obtain ⟨A, d, rfl, hd, hC⟩ := reads hy
    cases A with
    | none => rw [own_some hB rfl] at e; simp [Value.ownBlock] at e
    | some a =>
      obtain ⟨g, hg⟩ := Kd.R_head hy
      rw [own_some hB rfl] at e
      subst hg
      simp only [Value.ownBlock, Option.some.injEq] at e
      subst e
      rw [had]
      obtain ⟨q0, q1, q2⟩ := hC
      refine ⟨rfl, by have := q1; simp at this; omega, fun hp => ?_⟩
      obtain ⟨ad2, e2, hh⟩ := q2 (by simp; omega)
      cases e2
      refine ⟨_, rfl, fun j p hj => hh j p ?_⟩
      rw [List.getElem?_append_left (List.getElem?_eq_some_iff.1 hj).1]
      exact hj

theorem Ph2.readsb {px py : S37} {b0 c : Nat} {B : Option Addr} {vu : Value} {m l : List S37} {w0 w : World} {i j : Nat} {vx vy : Value} (h : Ph2 px py b0 B c vu m l w0 i j vx vy w) : Kd.C k37 w B l.length l := by
  rcases h.b with hb | ⟨hb, ha⟩
  · exact prefix_row h.y h.b00 h.bn hb
  · exact hb

theorem Ph2.stepy {px py : S37} {b0 c : Nat} {B : Option Addr} {vu : Value} {m l : List S37} {w0 w : World} {i j : Nat} {vx vy : Value} (h : Ph2 px py b0 B c vu m l w0 i j vx vy w) (hl : l.length + j + 1 ≤ 1000000000000) :
    ∃ g cap w1, (appG #[24, 24] 24 #[vy, .slice (some ⟨w.heap.size, 0, none⟩) 1 1]).run Tryd.prog (w.alloc (.cells #[.int .i64 py.f0, .int .i64 py.f1] 37)) = .ok (.slice (some ⟨g, 0, none⟩) (l.length + (j + 1)) cap) w1 ∧
      Ph2 px py b0 B c vu m l w0 i (j + 1) vx (.slice (some ⟨g, 0, none⟩) (l.length + (j + 1)) cap) w1 := by
  obtain ⟨g, cap, w1, hrun, hR, hG, hat, hel⟩ := app37 b0 vy _ py h.y h.big (by simp; omega)
  have hn : (l ++ List.replicate j py).length + 1 = l.length + (j + 1) := by simp; omega
  have hm : (l ++ List.replicate j py) ++ [py] = l ++ List.replicate (j + 1) py := by rw [List.append_assoc, List.replicate_succ']
  rw [hn] at hrun hR
  rw [hm] at hR
  have hyx := h.xy.symm
  refine ⟨g, cap, w1, hrun, h.x.keep hG (fun k hk => hyx k hk), hR, h.u.keep hG (fun k hk => h.yu k hk), (apart_new hat hyx (Kd.R_lt h.x)).symm, h.xb, h.xu, apart_new hat h.yu (Kd.R_lt h.u), ?_, h.bel.grown hG h.big (Kd.R_base h.y), Nat.le_trans h.big (size_le hG), fun k hk => Nat.lt_of_lt_of_le (h.blt k hk) (size_le hG), h.b00, h.bn⟩
  have hC : vy.ownBlock = (Value.slice B l.length c).ownBlock → Kd.C k37 w1 B l.length l := fun e => prefix_row hel h.b00 h.bn e
  rcases h.b with hb | ⟨hb, ha⟩
  · rcases hat with hat | hat
    · left
      rw [← hb, hat]
      rfl
    · right
      refine ⟨hC hb, fun k hk e => ?_⟩
      simp only [Value.ownBlock, Option.some.injEq] at hk
      subst hk
      have := h.blt _ e.symm
      omega
  · exact .inr ⟨C_grown hb hG (fun ad e hk => ha _ hk.symm (own_some h.b00 e).symm), apart_new hat ha h.blt⟩

/-- From phase one to phase two. -/
theorem Ph1.ends {p : S37} {b0 : Nat} {va vu : Value} {B : Option Addr} {c : Nat} {l : List S37} {w0 w : World} (px py : S37) (h : Ph1 p b0 va (.slice B l.length c) vu l w0 l.length w) (hab : Apart va (.slice B l.length c)) (hau : Apart va vu) (hbu : Apart (.slice B l.length c) vu) (big : b0 ≤ w.heap.size) :
    Ph2 px py b0 B c vu (List.replicate l.length p) l w0 0 0 va (.slice B l.length c) w := by
  have ha := h.a
  rw [fill_all] at ha
  refine ⟨by simpa using ha, by simpa using h.b, h.u, hab, hab, hau, hbu, .inl rfl, h.bel, big, Kd.R_lt h.b, fun ad e => ?_, fun e => ?_⟩
  · subst e
    obtain ⟨g, hg⟩ := Kd.R_head h.b
    rw [hg]
  · subst e
    cases l with
    | nil => rfl
    | cons x xs =>
      obtain ⟨g, cap, he, _⟩ := h.b.form (by simp)
      cases he

/-- What the last loop reads. -/
theorem Ph2.at_x {px py : S37} {b0 c : Nat} {B : Option Addr} {vu : Value} {m l : List S37} {w0 w : World} {i j : Nat} {ax ay : Addr} {nx cx ny cy : Nat} (h : Ph2 px py b0 B c vu m l w0 i j (.slice (some ax) nx cx) (.slice (some ay) ny cy) w) (k : Nat) (hml : m.length = l.length) (hij : i = j) (h0 : l.length ≤ k) (h1 : k < l.length + i) :
    w.cell? (ax.add (k * 2)) = some (.int .i64 px.f0) ∧ w.cell? (ay.add (k * 2)) = some (.int .i64 py.f0) := by
  subst hij
  have hx := Kd.R_reads' h.x
  have hy := Kd.R_reads' h.y
  have ex := hx.1
  have ey := hy.1
  simp at ex ey
  obtain ⟨ad, e, c1, _⟩ := at_T37 hx.2.2 (k : Int) (by omega) (by simp; omega)
  obtain ⟨ad2, e2, c2, _⟩ := at_T37 hy.2.2 (k : Int) (by omega) (by simp; omega)
  cases e
  cases e2
  have g1 : rd_T37 (m ++ List.replicate i px) (k : Int) = px := by
    unfold rd_T37
    rw [Int.toNat_natCast, List.getD_eq_getElem?_getD, List.getElem?_append_right (by omega), List.getElem?_replicate, if_pos (by omega)]; rfl
  have g2 : rd_T37 (l ++ List.replicate i py) (k : Int) = py := by
    unfold rd_T37
    rw [Int.toNat_natCast, List.getD_eq_getElem?_getD, List.getElem?_append_right (by omega), List.getElem?_replicate, if_pos (by omega)]; rfl
  rw [g1] at c1
  rw [g2] at c2
  exact ⟨c1, c2⟩
end Go.Proofs.YtdibgdiiamcmfaaDoor.Waves
