/- ops.rowOf, ops.Decode, ops.Encode, walked. -/
import Derived.Test.YtffbkmcaecmmgaaOpsT
import Derived.Deep.RegionHeld3
import Derived.Deep.DrawnRows
import Derived.Laws.Rows
set_option linter.unusedVariables false
set_option linter.unusedSimpArgs false
namespace Go.Proofs.Ytffbkmcaecmmgaa.Ops
open Go Go.RowKit
open Go.Proofs.YtffbkmcaecmmgaaW.PrintWords

def RowsSaid : Prop := ∀ w : World, Calls Try.prog 11 #[] w fun e w' => ∃ T, e = .returned (.slice (some ⟨T, 0, none⟩) 31 31) ∧ RowsAt w.heap.size T w' ∧ Below w.heap.size w w'
theorem RowsSaid.at (h : RowsSaid) (w : World) : Calls Try.prog 11 #[] w fun e w' => ∃ T, e = .returned (.slice (some ⟨T, 0, none⟩) 31 31) ∧ RowsAt w.heap.size T w' ∧ Below w.heap.size w w' := h w
/-- Has a word a row's fixed bits? -/
def Fits (wd : Int) (r : Rw) : Prop := Go.bits .and .u16 wd r.mask = r.word
def RowOf (wd : Int) (w : World) (e : Ending) (w' : World) : Prop :=
  ((∃ i, ∃ h : i < tbl.length, (∀ j (hj : j < tbl.length), j < i → ¬ Fits wd tbl[j]) ∧ Fits wd tbl[i] ∧ ∃ v, e = .returned (.tuple #[.agg #[.int .u8 tbl[i].op, .int .u16 tbl[i].mask, .int .u16 tbl[i].word, .string tbl[i].name, v], .bool true]) ∧ FdsAt w.heap.size v tbl[i].fds w')
    ∨ ((∀ j (hj : j < tbl.length), ¬ Fits wd tbl[j]) ∧ e = .returned (.tuple #[.agg #[.int .u8 0, .int .u16 0, .int .u16 0, .string ⟨#[]⟩, .slice none 0 0], .bool false])))
  ∧ Below w.heap.size w w'
theorem tbl_length : tbl.length = 31 := rfl
set_option maxRecDepth 100000 in
set_option maxHeartbeats 4000000 in
theorem rowOf_calls (RC : RowsSaid) (wd : Int) (w : World) : Calls Try.prog 25 #[.int .u16 wd] w (RowOf wd w) := by
  go_enter Try.func25, Try.ntmps25
  go_wp2_with fail
  have hR := blk_new w (.cells #[.int .u8 0, .int .u16 0, .int .u16 0, .string ⟨#[]⟩, .slice none 0 0] 44)
  have hB := below_alloc (Below.refl w.heap.size w) (.cells #[.int .u8 0, .int .u16 0, .int .u16 0, .string ⟨#[]⟩, .slice none 0 0] 44)
  (with_reducible refine (RC.at _).mono ?_)
  rintro e w1 ⟨T, rfl, hT, hb⟩
  have HT : Aside0 (RowsAt (w.heap.size + 1) T w1) := ⟨by have h := hT; simpa only [World.size_alloc] using h⟩
  have HR := Aside0.mk (blk_below hR hb)
  have HB := Aside0.mk (below_step hB hb)
  clear hT hR hB hb
  go_wp2_with fail
  go_loopw [8] (fun v8 wr => ∃ k : Nat, k ≤ 31 ∧ v8 = .int .i64 k ∧ Aside0 (∀ j (hj : j < tbl.length), j < k → ¬ Fits wd tbl[j]) ∧ Aside0 (RowsAt (w.heap.size + 1) T wr) ∧ Aside0 (wr.heap[w.heap.size]? = some (.cells #[.int .u8 0, .int .u16 0, .int .u16 0, .string ⟨#[]⟩, .slice none 0 0] 44 (0, 0))) ∧ Aside0 (Below w.heap.size w wr)) (fun i _ => 31 - (RowKit.intOf i).toNat)
  case atStart => exact ⟨0, Nat.zero_le _, rfl, ⟨fun j hj h => absurd h (Nat.not_lt_zero _)⟩, HT, HR, HB⟩
  case round =>
    clear HT HR HB
    obtain ⟨k, hk, rfl, HN, HT, HR, HB⟩ := hrel
    obtain ⟨wo, rfl⟩ : ∃ wo : World, wo = wr := ⟨_, rfl⟩
    by_cases hlt : k < 31
    · have hrow := HT.out k hlt
      obtain ⟨r, hr⟩ : ∃ r, tbl[k]'hlt = r := ⟨_, rfl⟩
      rw [hr] at hrow
      obtain ⟨q0, q1, q2, q3, v, q4, hv⟩ := hrow
      obtain ⟨A, rfl⟩ := hv.sl
      have HV := Aside0.mk hv
      have HRR := Aside0.mk hr
      clear hv hr
      by_cases hf : Go.bits .and .u16 wd r.mask = r.word
      · have hfb : (Go.bits .and .u16 wd r.mask == r.word) = true := beq_iff_eq.2 hf
        have HF := Aside0.mk hf
        clear hf
        have hz := HR.out
        have hlt0 : w.heap.size < wo.heap.size := blk_lt hz
        have z0 := (blk_cell hz 0).trans (rfl : _ = some (Value.int .u8 0))
        have z1 := (blk_cell hz 1).trans (rfl : _ = some (Value.int .u16 0))
        have z2 := (blk_cell hz 2).trans (rfl : _ = some (Value.int .u16 0))
        have z3 := (blk_cell hz 3).trans (rfl : _ = some (Value.string ⟨#[]⟩))
        have z4 := (blk_cell hz 4).trans (rfl : _ = some (Value.slice none 0 0))
        have y0 := blk_frozen hz 0
        have y1 := blk_frozen hz 1
        have y2 := blk_frozen hz 2
        have y3 := blk_frozen hz 3
        have y4 := blk_frozen hz 4
        clear hz
        go_wp2
        refine bodyPost_ret (results_ct rfl _ _ w.heap.size 44 #[.int .u8 r.op, .int .u16 r.mask, .int .u16 r.word, .string r.name, .slice A r.fds.length r.fds.length] (0, 0) _ rfl (blk_alloc (blk_put (blk_put (blk_put (blk_put (blk_put HR.out 0 _ rfl) 1 _ rfl) 2 _ rfl) 3 _ rfl) 4 _ rfl) _) Try.underlying44 rfl (by kernel_rfl)) rfl ?_
        refine ⟨.inl ⟨k, hlt, HN.out, by rw [HRR.out]; exact HF.out, .slice A r.fds.length r.fds.length, by rw [HRR.out]; rfl, ?_⟩, ?_⟩
        · rw [HRR.out]
          exact ((((((HV.out.set (Nat.lt_succ_self _) _).set (Nat.lt_succ_self _) _).set (Nat.lt_succ_self _) _).set (Nat.lt_succ_self _) _).set (Nat.lt_succ_self _) _).below (below_alloc (Below.refl _ _) _)).mono (Nat.le_succ _)
        · exact below_alloc (((((HB.out.setCell (Nat.le_refl _) _).setCell (Nat.le_refl _) _).setCell (Nat.le_refl _) _).setCell (Nat.le_refl _) _).setCell (Nat.le_refl _) _) _
      · have hfb : (Go.bits .and .u16 wd r.mask == r.word) = false := beq_eq_false_iff_ne.2 hf
        have HF := Aside0.mk hf
        clear hf
        go_wp2
        go_roundw
        case rel => exact ⟨k + 1, by omega, by go_num, ⟨fun j hj h => by
          rcases Nat.lt_succ_iff_lt_or_eq.1 h with h | h
          · exact HN.out j hj h
          · have e : tbl[j] = r := by subst h; exact HRR.out
            rw [e]
            exact HF.out⟩, ⟨HT.out.below (below_alloc (Below.refl _ _) _)⟩, ⟨blk_alloc HR.out _⟩, ⟨below_alloc HB.out _⟩⟩
        case measure => simp [RowKit.intOf]; omega
    · obtain rfl : k = 31 := by omega
      have hz := HR.out
      have z0 := (blk_cell hz 0).trans (rfl : _ = some (Value.int .u8 0))
      have z1 := (blk_cell hz 1).trans (rfl : _ = some (Value.int .u16 0))
      have z2 := (blk_cell hz 2).trans (rfl : _ = some (Value.int .u16 0))
      have z3 := (blk_cell hz 3).trans (rfl : _ = some (Value.string ⟨#[]⟩))
      have z4 := (blk_cell hz 4).trans (rfl : _ = some (Value.slice none 0 0))
      have y0 := blk_frozen hz 0
      have y1 := blk_frozen hz 1
      have y2 := blk_frozen hz 2
      have y3 := blk_frozen hz 3
      have y4 := blk_frozen hz 4
      clear hz
      go_wp2
      refine bodyPost_ret (results_ct rfl _ _ w.heap.size 44 #[.int .u8 0, .int .u16 0, .int .u16 0, .string ⟨#[]⟩, .slice none 0 0] (0, 0) _ rfl (blk_put (blk_put (blk_put (blk_put (blk_put HR.out 0 _ rfl) 1 _ rfl) 2 _ rfl) 3 _ rfl) 4 _ rfl) Try.underlying44 rfl (by kernel_rfl)) rfl ?_
      refine ⟨.inr ⟨fun j hj => HN.out j hj hj, rfl⟩, ?_⟩
      exact ((((HB.out.setCell (Nat.le_refl _) _).setCell (Nat.le_refl _) _).setCell (Nat.le_refl _) _).setCell (Nat.le_refl _) _).setCell (Nat.le_refl _) _
end Go.Proofs.Ytffbkmcaecmmgaa.Ops
