/- What the rounds of script.read keep. -/
import Derived.Test.YtdjffafcmomalaaDoorScrReadL
set_option linter.unusedVariables false
set_option linter.unusedSimpArgs false
namespace Go.Proofs.YtdjffafcmomalaaDoor.Scr
open Go Go.RowKit
open Go.Proofs.YtdjffafcmomalaaDoorW.PrintWords Go.Proofs.YtdjffafcmomalaaDoor.PScr

theorem loopW_other (s : S34) (x : ByteArray) (r : List ByteArray) (h1 : x ≠ tkeys) (h2 : x ≠ tbus) : loopW s (x :: r) = loopW (setF s x) r := by
  cases r with
  | nil => simp [loopW, h1, h2]
  | cons y r => simp [loopW, h1, h2]
theorem loopW_keys_end (s : S34) : loopW s [tkeys] = (s, false) := by simp [loopW]
theorem loopW_bus_end (s : S34) : loopW s [tbus] = (s, false) := by
  have : ¬ (tbus = tkeys) := by decide
  simp [loopW]
theorem loopW_keys (s : S34) (y : ByteArray) (r : List ByteArray) : loopW s (tkeys :: y :: r) = loopW { s with f1 := (numR y).1 % 65536 } r := by simp [loopW]
theorem loopW_bus (s : S34) (y : ByteArray) (r : List ByteArray) : loopW s (tbus :: y :: r) = loopW { s with f9 := (numR y).1 % 256 } r := by
  have : ¬ (tbus = tkeys) := by decide
  simp [loopW, this]

structure Inv (w0 : World) (W : List ByteArray) (g wb : Nat) (s : S34) (w : World) : Prop where
  bx : Bx s g w
  zb : Bx (zero34 0) w0.heap.size w
  wd : Wd W wb w
  bel : Below w0.heap.size w0 w
  ne : w0.heap.size < g
theorem Inv.below {w0 : World} {W : List ByteArray} {g wb : Nat} {s : S34} {w w1 : World} (h : Inv w0 W g wb s w) (hb : Below w.heap.size w w1) : Inv w0 W g wb s w1 :=
  ⟨h.bx.below hb, h.zb.below hb, h.wd.keep (fun k hk => hb.block k hk), below_step h.bel hb, h.ne⟩
theorem Inv.apart {w0 : World} {W : List ByteArray} {g wb : Nat} {s : S34} {w : World} (h : Inv w0 W g wb s w) : wb ≠ g := blk_ne h.wd h.bx (by decide)
theorem Inv.put {w0 : World} {W : List ByteArray} {g wb : Nat} {s s' : S34} {w : World} (h : Inv w0 W g wb s w) (i : Nat) (u : Value) (e : (cells34 s).setIfInBounds i u = cells34 s') : Inv w0 W g wb s' (w.setCell ⟨g, i, none⟩ u) :=
  ⟨blk_put h.bx i u e, blk_far h.zb (Nat.ne_of_lt h.ne) u, by
    have hk : wb ≠ (⟨g, i, none⟩ : Addr).block := h.apart
    show (w.setCell ⟨g, i, none⟩ u).heap[wb]? = _
    rw [heap_setCell_other _ _ _ _ hk]; exact h.wd, h.bel.setCell (Nat.le_of_lt h.ne) _, h.ne⟩
theorem Fx.put {g fb : Nat} {s : S34} {w : World} (h : Fx g fb w) (hs : Bx s g w) (i : Nat) (u : Value) : Fx g fb (w.setCell ⟨g, i, none⟩ u) := by
  have hne : fb ≠ g := blk_ne h hs (by decide)
  show (w.setCell ⟨g, i, none⟩ u).heap[fb]? = _
  rw [heap_setCell_other _ ⟨g, i, none⟩ _ _ hne]; exact h

def sfs : Nat → S34 → ByteArray → S34
  | 0, s, _ => s
  | k + 1, s, x => sf k (sfs k s x) x
theorem sfs_all (s : S34) (x : ByteArray) : sfs 7 s x = setF s x := rfl
theorem okS_sf (k : Nat) (s : S34) (x : ByteArray) (h : okS s = true) : okS (sf k s x) = true := by
  unfold sf
  split <;> (split <;> exact h)
theorem okS_setF (s : S34) (x : ByteArray) (h : okS s = true) : okS (setF s x) = true := by
  unfold setF
  exact okS_sf _ _ _ (okS_sf _ _ _ (okS_sf _ _ _ (okS_sf _ _ _ (okS_sf _ _ _ (okS_sf _ _ _ (okS_sf _ _ _ h))))))

theorem numL_bd : ∀ (l : List UInt8) (n r : Int) (m : Nat), 0 ≤ n → n < (16 ^ m : Nat) → numL l n = some r → 0 ≤ r ∧ r < (16 ^ (m + l.length) : Nat)
  | [], n, r, m, h0, h1, h => by
    simp only [numL, Option.some.injEq] at h
    subst h
    exact ⟨h0, by simpa using h1⟩
  | c :: l, n, r, m, h0, h1, h => by
    have e : (16 ^ (m + 1) : Nat) = 16 ^ m * 16 := Nat.pow_succ ..
    have e2 : m + (c :: l).length = (m + 1) + l.length := by simp; omega
    rw [numL] at h
    by_cases d1 : 48 ≤ c.toNat ∧ c.toNat ≤ 57
    · rw [if_pos d1] at h
      have := numL_bd l _ r (m + 1) (by omega) (by rw [e]; omega) h
      rw [e2]; exact this
    · rw [if_neg d1] at h
      by_cases d2 : 97 ≤ c.toNat ∧ c.toNat ≤ 102
      · rw [if_pos d2] at h
        have := numL_bd l _ r (m + 1) (by omega) (by rw [e]; omega) h
        rw [e2]; exact this
      · rw [if_neg d2] at h; cases h
theorem numR_bd (y : ByteArray) : 0 ≤ (numR y).1 ∧ (numR y).1 < 4294967296 := by
  unfold numR
  split
  · exact ⟨by decide, by decide⟩
  · split
    · exact ⟨by decide, by decide⟩
    · rename_i h8
      cases hn : numL y.data.toList 0 with
      | none => exact ⟨by decide, by decide⟩
      | some n =>
        have := numL_bd y.data.toList 0 n 0 (by decide) (by decide) hn
        have hl : y.data.toList.length ≤ 8 := by simp; exact Nat.le_of_not_lt h8
        have hp : (16 ^ (0 + y.data.toList.length) : Nat) ≤ 16 ^ 8 := Nat.pow_le_pow_right (by decide) (by omega)
        have e : (16 ^ 8 : Nat) = 4294967296 := by decide
        simp only
        omega
end Go.Proofs.YtdjffafcmomalaaDoor.Scr
