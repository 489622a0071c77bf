/- ops.Decode, walked. -/
import Derived.Test.YtffbkmcaecmmgaaOpsW
import Derived.Deep.RegionHeld3
import Derived.Deep.DrawnRows
import Derived.Laws.Rows
import Derived.Laws.BitsLemmas
set_option linter.unusedVariables false
set_option linter.unusedSimpArgs false
namespace Go.Proofs.Ytffbkmcaecmmgaa.Ops
open Go Go.RowKit
open Go.Proofs.YtffbkmcaecmmgaaW.PrintWords

theorem OBox.drew {q : Nat} {o : Ord} {w : World} (h : OBox q o w) : OBox q o w.drew := h
theorem cell_far_drew {W : World} {p a : Addr} (h : a.block ≠ p.block) (u : Value) : (W.setCell p u).drew.cell? a = W.cell? a := cell_far h u
/-- What a field's put is handed. -/
def decV (f : Fd) (wd : Int) : Int := match f with
  | .x => wd / 256 % 16
  | .y => wd / 16 % 16
  | .n => wd % 16
  | .b => wd % 256
  | .a => wd % 4096
def decF (fds : List Fd) (wd : Int) (o : Ord) : Ord := fds.foldl (fun o f => f.put (decV f wd) o) o
theorem decF_take (fds : List Fd) (j : Nat) (h : j < fds.length) (f : Fd) (hf : fds[j] = f) (wd : Int) (o : Ord) : decF (fds.take (j + 1)) wd o = f.put (decV f wd) (decF (fds.take j) wd o) := by
  unfold decF
  rw [List.take_succ_eq_append_getElem h, List.foldl_append, hf]
  rfl
def Decoded (wd : Int) (w : World) (e : Ending) (w' : World) : Prop :=
  ((∃ i, ∃ h : i < tbl.length, (∀ j (hj : j < tbl.length), j < i → ¬ Fits wd tbl[j]) ∧ Fits wd tbl[i] ∧ ∃ o : Ord, o = decF tbl[i].fds wd ⟨tbl[i].op, 0, 0, 0, 0, 0⟩ ∧ e = .returned (.tuple #[.agg #[.int .u8 o.op, .int .u8 o.x, .int .u8 o.y, .int .u8 o.n, .int .u8 o.b, .int .u16 o.a], .bool true]))
    ∨ ((∀ j (hj : j < tbl.length), ¬ Fits wd tbl[j]) ∧ e = .returned (.tuple #[.agg #[.int .u8 0, .int .u8 0, .int .u8 0, .int .u8 0, .int .u8 0, .int .u16 0], .bool false])))
  ∧ Below w.heap.size w w'
theorem fds_len : ∀ r ∈ tbl, r.fds.length ≤ 3 := by
  intro r hr
  have h : (tbl.all fun r => decide (r.fds.length ≤ 3)) = true := by decide
  simpa using List.all_eq_true.1 h r hr
set_option maxRecDepth 100000 in
set_option maxHeartbeats 8000000 in
theorem decode_calls (RC : RowsSaid) (wd : Int) (w : World) (h0 : 0 ≤ wd) (h1 : wd < 65536) : Calls Try.prog 12 #[.int .u16 wd] w (Decoded wd w) := by
  go_enter Try.func12, Try.ntmps12
  go_wp2_with fail
  have hR := blk_new w (.cells #[.int .u8 0, .int .u8 0, .int .u8 0, .int .u8 0, .int .u8 0, .int .u16 0] 25)
  have hB := below_alloc (Below.refl w.heap.size w) (.cells #[.int .u8 0, .int .u8 0, .int .u8 0, .int .u8 0, .int .u8 0, .int .u16 0] 25)
  (with_reducible refine (rowOf_calls RC wd _).mono ?_)
  rintro e w1 ⟨hrw, hb⟩
  have HR := Aside0.mk (blk_below hR hb)
  have HB := Aside0.mk (below_step hB hb)
  clear hR hB hb
  rcases hrw with ⟨i, hi, hn, hf, v, rfl, hv⟩ | ⟨hn, rfl⟩
  · obtain ⟨A, rfl⟩ := hv.sl
    obtain ⟨r, hr⟩ : ∃ r, tbl[i] = r := ⟨_, rfl⟩
    rw [hr] at hf hv ⊢
    have HV : Aside0 (FdsAt (w.heap.size + 1) (.slice A r.fds.length r.fds.length) r.fds w1) := ⟨by have h := hv; simpa only [World.size_alloc] using h⟩
    have HN := Aside0.mk hn
    have HF := Aside0.mk hf
    have HRR := Aside0.mk hr
    have hl5 : r.fds.length ≤ 3 := fds_len r (hr ▸ List.getElem_mem hi)
    clear hv hn hf hr
    go_upto_region 5 with fail
    have hq := blk_new (w1.alloc (.cells #[.int .u8 r.op, .int .u16 r.mask, .int .u16 r.word, .string r.name, .slice A r.fds.length r.fds.length] 44)) (.cells #[.int .u8 r.op, .int .u8 0, .int .u8 0, .int .u8 0, .int .u8 0, .int .u16 0] 25)
    have hr4 := blk_alloc (blk_new w1 (.cells #[.int .u8 r.op, .int .u16 r.mask, .int .u16 r.word, .string r.name, .slice A r.fds.length r.fds.length] 44)) (.cells #[.int .u8 r.op, .int .u8 0, .int .u8 0, .int .u8 0, .int .u8 0, .int .u16 0] 25)
    have hb2 := below_alloc (below_alloc (Below.refl w1.heap.size w1) (.cells #[.int .u8 r.op, .int .u16 r.mask, .int .u16 r.word, .string r.name, .slice A r.fds.length r.fds.length] 44)) (.cells #[.int .u8 r.op, .int .u8 0, .int .u8 0, .int .u8 0, .int .u8 0, .int .u16 0] 25)
    rw [World.size_alloc] at hq
    generalize ((w1.alloc (.cells #[.int .u8 r.op, .int .u16 r.mask, .int .u16 r.word, .string r.name, .slice A r.fds.length r.fds.length] 44)).alloc (.cells #[.int .u8 r.op, .int .u8 0, .int .u8 0, .int .u8 0, .int .u8 0, .int .u16 0] 25)) = w2 at hq hr4 hb2 ⊢
    have hlR : w.heap.size < w1.heap.size := blk_lt HR.out
    have B2 := Aside0.mk hb2
    have Q2 : Aside0 (OBox (w1.heap.size + 1) (decF (r.fds.take 0) wd ⟨r.op, 0, 0, 0, 0, 0⟩) w2) := ⟨hq⟩
    have q4 := (blk_cell hr4 4).trans (rfl : _ = some (Value.slice A r.fds.length r.fds.length))
    clear hq hr4 hb2
    go_wp2_with fail
    go_loopw [23] (fun v23 wr => ∃ j : Nat, j ≤ r.fds.length ∧ v23 = .int .i64 j ∧ Aside0 (OBox (w1.heap.size + 1) (decF (r.fds.take j) wd ⟨r.op, 0, 0, 0, 0, 0⟩) wr) ∧ Aside0 (Below w1.heap.size w1 wr)) (fun i _ => r.fds.length - (RowKit.intOf i).toNat)
    case atStart => exact ⟨0, Nat.zero_le _, rfl, Q2, B2⟩
    case round =>
      clear Q2 B2 q4
      obtain ⟨j, hj, rfl, Q2, B2⟩ := hrel
      obtain ⟨wo, rfl⟩ : ∃ wo : World, wo = wr := ⟨_, rfl⟩
      by_cases hlt : j < r.fds.length
      · rcases HV.out.below B2.out with ⟨hnil, _⟩ | ⟨g, hg0, hg1, hg2⟩
        · rw [hnil] at hlt
          exact absurd hlt (Nat.not_lt_zero _)
        · obtain rfl : A = some ⟨g, 0, none⟩ := by injection hg1
          have hfd := hg2 j hlt
          obtain ⟨f, hf⟩ : ∃ f, r.fds[j] = f := ⟨_, rfl⟩
          rw [hf] at hfd
          have HF2 := Aside0.mk hf
          clear hg1 hg2 hf
          cases f
          · have c0 : wo.cell? ⟨g, j * 5, none⟩ = some (.int .i64 8) := hfd.c0
            have c1 : wo.cell? ⟨g, j * 5 + 1, none⟩ = some (.int .i64 1) := hfd.c1
            have c2 : wo.cell? ⟨g, j * 5 + 2, none⟩ = some (.string ⟨#[118]⟩) := hfd.c2
            have c3 : wo.cell? ⟨g, j * 5 + 3, none⟩ = some (.func (.func 15) #[] #[]) := hfd.c3
            have c4 : wo.cell? ⟨g, j * 5 + 4, none⟩ = some (.func (.func 16) #[] #[]) := hfd.c4
            clear hfd
            go_upto_region 8 with fail
            have hk := blk_new wo (.cells #[.int .i64 8, .int .i64 1, .string ⟨#[118]⟩, .func (.func 15) #[] #[], .func (.func 16) #[] #[]] 48)
            have Q5 : Aside0 (OBox (w1.heap.size + 1) (decF (r.fds.take j) wd ⟨r.op, 0, 0, 0, 0, 0⟩) (wo.alloc (.cells #[.int .i64 8, .int .i64 1, .string ⟨#[118]⟩, .func (.func 15) #[] #[], .func (.func 16) #[] #[]] 48))) := ⟨blk_alloc Q2.out _⟩
            have hlk : w1.heap.size + 1 < wo.heap.size := blk_lt Q2.out
            have B5 := Aside0.mk (below_alloc B2.out (.cells #[.int .i64 8, .int .i64 1, .string ⟨#[118]⟩, .func (.func 15) #[] #[], .func (.func 16) #[] #[]] 48))
            obtain ⟨K, hK⟩ : ∃ K, wo.heap.size = K := ⟨_, rfl⟩
            rw [hK] at hk hlk ⊢
            generalize (wo.alloc (.cells #[.int .i64 8, .int .i64 1, .string ⟨#[118]⟩, .func (.func 15) #[] #[], .func (.func 16) #[] #[]] 48)) = w5 at hk Q5 B5 ⊢
            clear c0 c1 c2 c3 c4 B2 hK Q2
            have d0 := (blk_cell hk 0).trans (rfl : _ = some (Value.int .i64 8))
            have d1 := (blk_cell hk 1).trans (rfl : _ = some (Value.int .i64 1))
            have d4 := (blk_cell hk 4).trans (rfl : _ = some (Value.func (.func 16) #[] #[]))
            clear hk
            have e1 : IntKind.i64.wrap wd = wd := by rw [IntKind.wrap_i64]; omega
            have e2 : IntKind.i64.wrap 4 = 4 := by decide
            have e3 : IntKind.i64.wrap 16 = 16 := by decide
            have e4 : IntKind.i64.wrap 15 = 15 := by decide
            have e5 : Go.bits .and .i64 (wd / 256) 15 = decV .x wd := bits_mask .i64 20 (by decide) (fun n a b => by rw [IntKind.wrap_i64]; omega) 4 (by decide) (wd / 256) (by omega) (by omega)
            obtain ⟨v, hv, hv0, hv1⟩ : ∃ v, decV .x wd = v ∧ 0 ≤ v ∧ v ≤ 15 := ⟨_, rfl, by unfold decV; simp only; omega, by unfold decV; simp only; omega⟩
            rw [hv] at e5
            have HVV := Aside0.mk hv
            clear hv
            have hKq : K ≠ w1.heap.size + 1 := by omega
            have e6 : (w5.setCell ⟨w1.heap.size + 1, 1, none⟩ (.int .u8 v)).cell? ⟨K, 0, none⟩ = some (Value.int .i64 8) := (cell_far (p := ⟨w1.heap.size + 1, 1, none⟩) (a := ⟨K, 0, none⟩) hKq _).trans d0
            have e7 : (w5.setCell ⟨w1.heap.size + 1, 1, none⟩ (.int .u8 v)).cell? ⟨K, 1, none⟩ = some (Value.int .i64 1) := (cell_far (p := ⟨w1.heap.size + 1, 1, none⟩) (a := ⟨K, 1, none⟩) hKq _).trans d1
            have e8 : (w5.setCell ⟨w1.heap.size + 1, 1, none⟩ (.int .u8 v)).cell? ⟨K, 4, none⟩ = some (Value.func (.func 16) #[] #[]) := (cell_far (p := ⟨w1.heap.size + 1, 1, none⟩) (a := ⟨K, 4, none⟩) hKq _).trans d4
            clear hKq
            go_region_held3 (fun w' => w'.cell? ⟨K, 0, none⟩ = some (Value.int .i64 8) ∧ w'.cell? ⟨K, 1, none⟩ = some (Value.int .i64 1) ∧ w'.cell? ⟨K, 4, none⟩ = some (Value.func (.func 16) #[] #[])) (go_keep) (first | (go_at_call 16; (with_reducible refine (put_x (w1.heap.size + 1) (decF (r.fds.take j) wd ⟨r.op, 0, 0, 0, 0, 0⟩) v w5.drew hv0 hv1 (OBox.drew Q5.out)).mono ?_); rintro e w6 ⟨rfl, rfl⟩))
            all_goals
              go_wp2
              go_roundw
              case rel => exact ⟨j + 1, by omega, by go_num, ⟨by rw [decF_take r.fds j hlt _ HF2.out, HVV.out]; exact blk_drew (blk_put Q5.out 1 _ rfl)⟩, ⟨below_drew1 (B5.out.setCell (Nat.le_succ _) _)⟩⟩
              case measure => simp [RowKit.intOf]; omega
          · have c0 : wo.cell? ⟨g, j * 5, none⟩ = some (.int .i64 4) := hfd.c0
            have c1 : wo.cell? ⟨g, j * 5 + 1, none⟩ = some (.int .i64 1) := hfd.c1
            have c2 : wo.cell? ⟨g, j * 5 + 2, none⟩ = some (.string ⟨#[118]⟩) := hfd.c2
            have c3 : wo.cell? ⟨g, j * 5 + 3, none⟩ = some (.func (.func 17) #[] #[]) := hfd.c3
            have c4 : wo.cell? ⟨g, j * 5 + 4, none⟩ = some (.func (.func 18) #[] #[]) := hfd.c4
            clear hfd
            go_upto_region 8 with fail
            have hk := blk_new wo (.cells #[.int .i64 4, .int .i64 1, .string ⟨#[118]⟩, .func (.func 17) #[] #[], .func (.func 18) #[] #[]] 48)
            have Q5 : Aside0 (OBox (w1.heap.size + 1) (decF (r.fds.take j) wd ⟨r.op, 0, 0, 0, 0, 0⟩) (wo.alloc (.cells #[.int .i64 4, .int .i64 1, .string ⟨#[118]⟩, .func (.func 17) #[] #[], .func (.func 18) #[] #[]] 48))) := ⟨blk_alloc Q2.out _⟩
            have hlk : w1.heap.size + 1 < wo.heap.size := blk_lt Q2.out
            have B5 := Aside0.mk (below_alloc B2.out (.cells #[.int .i64 4, .int .i64 1, .string ⟨#[118]⟩, .func (.func 17) #[] #[], .func (.func 18) #[] #[]] 48))
            obtain ⟨K, hK⟩ : ∃ K, wo.heap.size = K := ⟨_, rfl⟩
            rw [hK] at hk hlk ⊢
            generalize (wo.alloc (.cells #[.int .i64 4, .int .i64 1, .string ⟨#[118]⟩, .func (.func 17) #[] #[], .func (.func 18) #[] #[]] 48)) = w5 at hk Q5 B5 ⊢
            clear c0 c1 c2 c3 c4 B2 hK Q2
            have d0 := (blk_cell hk 0).trans (rfl : _ = some (Value.int .i64 4))
            have d1 := (blk_cell hk 1).trans (rfl : _ = some (Value.int .i64 1))
            have d4 := (blk_cell hk 4).trans (rfl : _ = some (Value.func (.func 18) #[] #[]))
            clear hk
            have e1 : IntKind.i64.wrap wd = wd := by rw [IntKind.wrap_i64]; omega
            have e2 : IntKind.i64.wrap 4 = 4 := by decide
            have e3 : IntKind.i64.wrap 16 = 16 := by decide
            have e4 : IntKind.i64.wrap 15 = 15 := by decide
            have e5 : Go.bits .and .i64 (wd / 16) 15 = decV .y wd := bits_mask .i64 20 (by decide) (fun n a b => by rw [IntKind.wrap_i64]; omega) 4 (by decide) (wd / 16) (by omega) (by omega)
            obtain ⟨v, hv, hv0, hv1⟩ : ∃ v, decV .y wd = v ∧ 0 ≤ v ∧ v ≤ 15 := ⟨_, rfl, by unfold decV; simp only; omega, by unfold decV; simp only; omega⟩
            rw [hv] at e5
            have HVV := Aside0.mk hv
            clear hv
            have hKq : K ≠ w1.heap.size + 1 := by omega
            have e6 : (w5.setCell ⟨w1.heap.size + 1, 2, none⟩ (.int .u8 v)).cell? ⟨K, 0, none⟩ = some (Value.int .i64 4) := (cell_far (p := ⟨w1.heap.size + 1, 2, none⟩) (a := ⟨K, 0, none⟩) hKq _).trans d0
            have e7 : (w5.setCell ⟨w1.heap.size + 1, 2, none⟩ (.int .u8 v)).cell? ⟨K, 1, none⟩ = some (Value.int .i64 1) := (cell_far (p := ⟨w1.heap.size + 1, 2, none⟩) (a := ⟨K, 1, none⟩) hKq _).trans d1
            have e8 : (w5.setCell ⟨w1.heap.size + 1, 2, none⟩ (.int .u8 v)).cell? ⟨K, 4, none⟩ = some (Value.func (.func 18) #[] #[]) := (cell_far (p := ⟨w1.heap.size + 1, 2, none⟩) (a := ⟨K, 4, none⟩) hKq _).trans d4
            clear hKq
            go_region_held3 (fun w' => w'.cell? ⟨K, 0, none⟩ = some (Value.int .i64 4) ∧ w'.cell? ⟨K, 1, none⟩ = some (Value.int .i64 1) ∧ w'.cell? ⟨K, 4, none⟩ = some (Value.func (.func 18) #[] #[])) (go_keep) (first | (go_at_call 18; (with_reducible refine (put_y (w1.heap.size + 1) (decF (r.fds.take j) wd ⟨r.op, 0, 0, 0, 0, 0⟩) v w5.drew hv0 hv1 (OBox.drew Q5.out)).mono ?_); rintro e w6 ⟨rfl, rfl⟩))
            all_goals
              go_wp2
              go_roundw
              case rel => exact ⟨j + 1, by omega, by go_num, ⟨by rw [decF_take r.fds j hlt _ HF2.out, HVV.out]; exact blk_drew (blk_put Q5.out 2 _ rfl)⟩, ⟨below_drew1 (B5.out.setCell (Nat.le_succ _) _)⟩⟩
              case measure => simp [RowKit.intOf]; omega
          · have c0 : wo.cell? ⟨g, j * 5, none⟩ = some (.int .i64 0) := hfd.c0
            have c1 : wo.cell? ⟨g, j * 5 + 1, none⟩ = some (.int .i64 1) := hfd.c1
            have c2 : wo.cell? ⟨g, j * 5 + 2, none⟩ = some (.string ⟨#[]⟩) := hfd.c2
            have c3 : wo.cell? ⟨g, j * 5 + 3, none⟩ = some (.func (.func 19) #[] #[]) := hfd.c3
            have c4 : wo.cell? ⟨g, j * 5 + 4, none⟩ = some (.func (.func 20) #[] #[]) := hfd.c4
            clear hfd
            go_upto_region 8 with fail
            have hk := blk_new wo (.cells #[.int .i64 0, .int .i64 1, .string ⟨#[]⟩, .func (.func 19) #[] #[], .func (.func 20) #[] #[]] 48)
            have Q5 : Aside0 (OBox (w1.heap.size + 1) (decF (r.fds.take j) wd ⟨r.op, 0, 0, 0, 0, 0⟩) (wo.alloc (.cells #[.int .i64 0, .int .i64 1, .string ⟨#[]⟩, .func (.func 19) #[] #[], .func (.func 20) #[] #[]] 48))) := ⟨blk_alloc Q2.out _⟩
            have hlk : w1.heap.size + 1 < wo.heap.size := blk_lt Q2.out
            have B5 := Aside0.mk (below_alloc B2.out (.cells #[.int .i64 0, .int .i64 1, .string ⟨#[]⟩, .func (.func 19) #[] #[], .func (.func 20) #[] #[]] 48))
            obtain ⟨K, hK⟩ : ∃ K, wo.heap.size = K := ⟨_, rfl⟩
            rw [hK] at hk hlk ⊢
            generalize (wo.alloc (.cells #[.int .i64 0, .int .i64 1, .string ⟨#[]⟩, .func (.func 19) #[] #[], .func (.func 20) #[] #[]] 48)) = w5 at hk Q5 B5 ⊢
            clear c0 c1 c2 c3 c4 B2 hK Q2
            have d0 := (blk_cell hk 0).trans (rfl : _ = some (Value.int .i64 0))
            have d1 := (blk_cell hk 1).trans (rfl : _ = some (Value.int .i64 1))
            have d4 := (blk_cell hk 4).trans (rfl : _ = some (Value.func (.func 20) #[] #[]))
            clear hk
            have e1 : IntKind.i64.wrap wd = wd := by rw [IntKind.wrap_i64]; omega
            have e2 : IntKind.i64.wrap 4 = 4 := by decide
            have e3 : IntKind.i64.wrap 16 = 16 := by decide
            have e4 : IntKind.i64.wrap 15 = 15 := by decide
            have e5 : Go.bits .and .i64 (wd) 15 = decV .n wd := bits_mask .i64 20 (by decide) (fun n a b => by rw [IntKind.wrap_i64]; omega) 4 (by decide) (wd) (by omega) (by omega)
            obtain ⟨v, hv, hv0, hv1⟩ : ∃ v, decV .n wd = v ∧ 0 ≤ v ∧ v ≤ 15 := ⟨_, rfl, by unfold decV; simp only; omega, by unfold decV; simp only; omega⟩
            rw [hv] at e5
            have HVV := Aside0.mk hv
            clear hv
            have hKq : K ≠ w1.heap.size + 1 := by omega
            have e6 : (w5.setCell ⟨w1.heap.size + 1, 3, none⟩ (.int .u8 v)).cell? ⟨K, 0, none⟩ = some (Value.int .i64 0) := (cell_far (p := ⟨w1.heap.size + 1, 3, none⟩) (a := ⟨K, 0, none⟩) hKq _).trans d0
            have e7 : (w5.setCell ⟨w1.heap.size + 1, 3, none⟩ (.int .u8 v)).cell? ⟨K, 1, none⟩ = some (Value.int .i64 1) := (cell_far (p := ⟨w1.heap.size + 1, 3, none⟩) (a := ⟨K, 1, none⟩) hKq _).trans d1
            have e8 : (w5.setCell ⟨w1.heap.size + 1, 3, none⟩ (.int .u8 v)).cell? ⟨K, 4, none⟩ = some (Value.func (.func 20) #[] #[]) := (cell_far (p := ⟨w1.heap.size + 1, 3, none⟩) (a := ⟨K, 4, none⟩) hKq _).trans d4
            clear hKq
            go_region_held3 (fun w' => w'.cell? ⟨K, 0, none⟩ = some (Value.int .i64 0) ∧ w'.cell? ⟨K, 1, none⟩ = some (Value.int .i64 1) ∧ w'.cell? ⟨K, 4, none⟩ = some (Value.func (.func 20) #[] #[])) (go_keep) (first | (go_at_call 20; (with_reducible refine (put_n (w1.heap.size + 1) (decF (r.fds.take j) wd ⟨r.op, 0, 0, 0, 0, 0⟩) v w5.drew hv0 hv1 (OBox.drew Q5.out)).mono ?_); rintro e w6 ⟨rfl, rfl⟩))
            all_goals
              go_wp2
              go_roundw
              case rel => exact ⟨j + 1, by omega, by go_num, ⟨by rw [decF_take r.fds j hlt _ HF2.out, HVV.out]; exact blk_drew (blk_put Q5.out 3 _ rfl)⟩, ⟨below_drew1 (B5.out.setCell (Nat.le_succ _) _)⟩⟩
              case measure => simp [RowKit.intOf]; omega
          · have c0 : wo.cell? ⟨g, j * 5, none⟩ = some (.int .i64 0) := hfd.c0
            have c1 : wo.cell? ⟨g, j * 5 + 1, none⟩ = some (.int .i64 2) := hfd.c1
            have c2 : wo.cell? ⟨g, j * 5 + 2, none⟩ = some (.string ⟨#[]⟩) := hfd.c2
            have c3 : wo.cell? ⟨g, j * 5 + 3, none⟩ = some (.func (.func 21) #[] #[]) := hfd.c3
            have c4 : wo.cell? ⟨g, j * 5 + 4, none⟩ = some (.func (.func 22) #[] #[]) := hfd.c4
            clear hfd
            go_upto_region 8 with fail
            have hk := blk_new wo (.cells #[.int .i64 0, .int .i64 2, .string ⟨#[]⟩, .func (.func 21) #[] #[], .func (.func 22) #[] #[]] 48)
            have Q5 : Aside0 (OBox (w1.heap.size + 1) (decF (r.fds.take j) wd ⟨r.op, 0, 0, 0, 0, 0⟩) (wo.alloc (.cells #[.int .i64 0, .int .i64 2, .string ⟨#[]⟩, .func (.func 21) #[] #[], .func (.func 22) #[] #[]] 48))) := ⟨blk_alloc Q2.out _⟩
            have hlk : w1.heap.size + 1 < wo.heap.size := blk_lt Q2.out
            have B5 := Aside0.mk (below_alloc B2.out (.cells #[.int .i64 0, .int .i64 2, .string ⟨#[]⟩, .func (.func 21) #[] #[], .func (.func 22) #[] #[]] 48))
            obtain ⟨K, hK⟩ : ∃ K, wo.heap.size = K := ⟨_, rfl⟩
            rw [hK] at hk hlk ⊢
            generalize (wo.alloc (.cells #[.int .i64 0, .int .i64 2, .string ⟨#[]⟩, .func (.func 21) #[] #[], .func (.func 22) #[] #[]] 48)) = w5 at hk Q5 B5 ⊢
            clear c0 c1 c2 c3 c4 B2 hK Q2
            have d0 := (blk_cell hk 0).trans (rfl : _ = some (Value.int .i64 0))
            have d1 := (blk_cell hk 1).trans (rfl : _ = some (Value.int .i64 2))
            have d4 := (blk_cell hk 4).trans (rfl : _ = some (Value.func (.func 22) #[] #[]))
            clear hk
            have e1 : IntKind.i64.wrap wd = wd := by rw [IntKind.wrap_i64]; omega
            have e2 : IntKind.i64.wrap 8 = 8 := by decide
            have e3 : IntKind.i64.wrap 256 = 256 := by decide
            have e4 : IntKind.i64.wrap 255 = 255 := by decide
            have e5 : Go.bits .and .i64 (wd) 255 = decV .b wd := bits_mask .i64 20 (by decide) (fun n a b => by rw [IntKind.wrap_i64]; omega) 8 (by decide) (wd) (by omega) (by omega)
            obtain ⟨v, hv, hv0, hv1⟩ : ∃ v, decV .b wd = v ∧ 0 ≤ v ∧ v ≤ 255 := ⟨_, rfl, by unfold decV; simp only; omega, by unfold decV; simp only; omega⟩
            rw [hv] at e5
            have HVV := Aside0.mk hv
            clear hv
            have hKq : K ≠ w1.heap.size + 1 := by omega
            have e6 : (w5.setCell ⟨w1.heap.size + 1, 4, none⟩ (.int .u8 v)).cell? ⟨K, 0, none⟩ = some (Value.int .i64 0) := (cell_far (p := ⟨w1.heap.size + 1, 4, none⟩) (a := ⟨K, 0, none⟩) hKq _).trans d0
            have e7 : (w5.setCell ⟨w1.heap.size + 1, 4, none⟩ (.int .u8 v)).cell? ⟨K, 1, none⟩ = some (Value.int .i64 2) := (cell_far (p := ⟨w1.heap.size + 1, 4, none⟩) (a := ⟨K, 1, none⟩) hKq _).trans d1
            have e8 : (w5.setCell ⟨w1.heap.size + 1, 4, none⟩ (.int .u8 v)).cell? ⟨K, 4, none⟩ = some (Value.func (.func 22) #[] #[]) := (cell_far (p := ⟨w1.heap.size + 1, 4, none⟩) (a := ⟨K, 4, none⟩) hKq _).trans d4
            clear hKq
            go_region_held3 (fun w' => w'.cell? ⟨K, 0, none⟩ = some (Value.int .i64 0) ∧ w'.cell? ⟨K, 1, none⟩ = some (Value.int .i64 2) ∧ w'.cell? ⟨K, 4, none⟩ = some (Value.func (.func 22) #[] #[])) (go_keep) (first | (go_at_call 22; (with_reducible refine (put_b (w1.heap.size + 1) (decF (r.fds.take j) wd ⟨r.op, 0, 0, 0, 0, 0⟩) v w5.drew hv0 hv1 (OBox.drew Q5.out)).mono ?_); rintro e w6 ⟨rfl, rfl⟩))
            all_goals
              go_wp2
              go_roundw
              case rel => exact ⟨j + 1, by omega, by go_num, ⟨by rw [decF_take r.fds j hlt _ HF2.out, HVV.out]; exact blk_drew (blk_put Q5.out 4 _ rfl)⟩, ⟨below_drew1 (B5.out.setCell (Nat.le_succ _) _)⟩⟩
              case measure => simp [RowKit.intOf]; omega
          · have c0 : wo.cell? ⟨g, j * 5, none⟩ = some (.int .i64 0) := hfd.c0
            have c1 : wo.cell? ⟨g, j * 5 + 1, none⟩ = some (.int .i64 3) := hfd.c1
            have c2 : wo.cell? ⟨g, j * 5 + 2, none⟩ = some (.string ⟨#[]⟩) := hfd.c2
            have c3 : wo.cell? ⟨g, j * 5 + 3, none⟩ = some (.func (.func 23) #[] #[]) := hfd.c3
            have c4 : wo.cell? ⟨g, j * 5 + 4, none⟩ = some (.func (.func 24) #[] #[]) := hfd.c4
            clear hfd
            go_upto_region 8 with fail
            have hk := blk_new wo (.cells #[.int .i64 0, .int .i64 3, .string ⟨#[]⟩, .func (.func 23) #[] #[], .func (.func 24) #[] #[]] 48)
            have Q5 : Aside0 (OBox (w1.heap.size + 1) (decF (r.fds.take j) wd ⟨r.op, 0, 0, 0, 0, 0⟩) (wo.alloc (.cells #[.int .i64 0, .int .i64 3, .string ⟨#[]⟩, .func (.func 23) #[] #[], .func (.func 24) #[] #[]] 48))) := ⟨blk_alloc Q2.out _⟩
            have hlk : w1.heap.size + 1 < wo.heap.size := blk_lt Q2.out
            have B5 := Aside0.mk (below_alloc B2.out (.cells #[.int .i64 0, .int .i64 3, .string ⟨#[]⟩, .func (.func 23) #[] #[], .func (.func 24) #[] #[]] 48))
            obtain ⟨K, hK⟩ : ∃ K, wo.heap.size = K := ⟨_, rfl⟩
            rw [hK] at hk hlk ⊢
            generalize (wo.alloc (.cells #[.int .i64 0, .int .i64 3, .string ⟨#[]⟩, .func (.func 23) #[] #[], .func (.func 24) #[] #[]] 48)) = w5 at hk Q5 B5 ⊢
            clear c0 c1 c2 c3 c4 B2 hK Q2
            have d0 := (blk_cell hk 0).trans (rfl : _ = some (Value.int .i64 0))
            have d1 := (blk_cell hk 1).trans (rfl : _ = some (Value.int .i64 3))
            have d4 := (blk_cell hk 4).trans (rfl : _ = some (Value.func (.func 24) #[] #[]))
            clear hk
            have e1 : IntKind.i64.wrap wd = wd := by rw [IntKind.wrap_i64]; omega
            have e2 : IntKind.i64.wrap 12 = 12 := by decide
            have e3 : IntKind.i64.wrap 4096 = 4096 := by decide
            have e4 : IntKind.i64.wrap 4095 = 4095 := by decide
            have e5 : Go.bits .and .i64 (wd) 4095 = decV .a wd := bits_mask .i64 20 (by decide) (fun n a b => by rw [IntKind.wrap_i64]; omega) 12 (by decide) (wd) (by omega) (by omega)
            obtain ⟨v, hv, hv0, hv1⟩ : ∃ v, decV .a wd = v ∧ 0 ≤ v ∧ v ≤ 4095 := ⟨_, rfl, by unfold decV; simp only; omega, by unfold decV; simp only; omega⟩
            rw [hv] at e5
            have HVV := Aside0.mk hv
            clear hv
            have hKq : K ≠ w1.heap.size + 1 := by omega
            have e6 : (w5.setCell ⟨w1.heap.size + 1, 5, none⟩ (.int .u16 v)).cell? ⟨K, 0, none⟩ = some (Value.int .i64 0) := (cell_far (p := ⟨w1.heap.size + 1, 5, none⟩) (a := ⟨K, 0, none⟩) hKq _).trans d0
            have e7 : (w5.setCell ⟨w1.heap.size + 1, 5, none⟩ (.int .u16 v)).cell? ⟨K, 1, none⟩ = some (Value.int .i64 3) := (cell_far (p := ⟨w1.heap.size + 1, 5, none⟩) (a := ⟨K, 1, none⟩) hKq _).trans d1
            have e8 : (w5.setCell ⟨w1.heap.size + 1, 5, none⟩ (.int .u16 v)).cell? ⟨K, 4, none⟩ = some (Value.func (.func 24) #[] #[]) := (cell_far (p := ⟨w1.heap.size + 1, 5, none⟩) (a := ⟨K, 4, none⟩) hKq _).trans d4
            clear hKq
            go_region_held3 (fun w' => w'.cell? ⟨K, 0, none⟩ = some (Value.int .i64 0) ∧ w'.cell? ⟨K, 1, none⟩ = some (Value.int .i64 3) ∧ w'.cell? ⟨K, 4, none⟩ = some (Value.func (.func 24) #[] #[])) (go_keep) (first | (go_at_call 24; (with_reducible refine (put_a (w1.heap.size + 1) (decF (r.fds.take j) wd ⟨r.op, 0, 0, 0, 0, 0⟩) v w5.drew hv0 hv1 (OBox.drew Q5.out)).mono ?_); rintro e w6 ⟨rfl, rfl⟩))
            all_goals
              go_wp2
              go_roundw
              case rel => exact ⟨j + 1, by omega, by go_num, ⟨by rw [decF_take r.fds j hlt _ HF2.out, HVV.out]; exact blk_drew (blk_put Q5.out 5 _ rfl)⟩, ⟨below_drew1 (B5.out.setCell (Nat.le_succ _) _)⟩⟩
              case measure => simp [RowKit.intOf]; omega
      · obtain rfl : j = r.fds.length := by omega
        obtain ⟨oF, hoF⟩ : ∃ oF, decF r.fds wd ⟨r.op, 0, 0, 0, 0, 0⟩ = oF := ⟨_, rfl⟩
        have Q3 : Aside0 (OBox (w1.heap.size + 1) oF wo) := ⟨by have h := Q2.out; rw [List.take_length, hoF] at h; exact h⟩
        have HO := Aside0.mk hoF
        have R3 := Aside0.mk (blk_below HR.out B2.out)
        have hz := R3.out
        have hq := Q3.out
        unfold OBox at hq
        have z0 := (blk_cell hz 0).trans (rfl : _ = some (Value.int .u8 0))
        have y0 := blk_frozen hz 0
        have z1 := (blk_cell hz 1).trans (rfl : _ = some (Value.int .u8 0))
        have y1 := blk_frozen hz 1
        have z2 := (blk_cell hz 2).trans (rfl : _ = some (Value.int .u8 0))
        have y2 := blk_frozen hz 2
        have z3 := (blk_cell hz 3).trans (rfl : _ = some (Value.int .u8 0))
        have y3 := blk_frozen hz 3
        have z4 := (blk_cell hz 4).trans (rfl : _ = some (Value.int .u8 0))
        have y4 := blk_frozen hz 4
        have z5 := (blk_cell hz 5).trans (rfl : _ = some (Value.int .u16 0))
        have y5 := blk_frozen hz 5
        have x0 := (blk_cell hq 0).trans (rfl : _ = some (Value.int .u8 oF.op))
        have x1 := (blk_cell hq 1).trans (rfl : _ = some (Value.int .u8 oF.x))
        have x2 := (blk_cell hq 2).trans (rfl : _ = some (Value.int .u8 oF.y))
        have x3 := (blk_cell hq 3).trans (rfl : _ = some (Value.int .u8 oF.n))
        have x4 := (blk_cell hq 4).trans (rfl : _ = some (Value.int .u8 oF.b))
        have x5 := (blk_cell hq 5).trans (rfl : _ = some (Value.int .u16 oF.a))
        have hne : ¬ w.heap.size = w1.heap.size + 1 := by omega
        have hltR : w.heap.size < wo.heap.size := blk_lt hz
        clear hz hq hoF Q2
        go_wp2
        refine bodyPost_ret (results_ct rfl _ _ w.heap.size 25 #[.int .u8 oF.op, .int .u8 oF.x, .int .u8 oF.y, .int .u8 oF.n, .int .u8 oF.b, .int .u16 oF.a] (0, 0) _ rfl (blk_put (blk_put (blk_put (blk_put (blk_put (blk_put R3.out 0 _ rfl) 1 _ rfl) 2 _ rfl) 3 _ rfl) 4 _ rfl) 5 _ rfl) Try.underlying25 rfl (by kernel_rfl)) rfl ?_
        refine ⟨.inl ⟨i, hi, HN.out, by rw [HRR.out]; exact HF.out, oF, by rw [HRR.out]; exact HO.out.symm, rfl⟩, ?_⟩
        exact (Below.setCell (Below.setCell (Below.setCell (Below.setCell (Below.setCell (Below.setCell (below_step HB.out B2.out) (Nat.le_refl _) _) (Nat.le_refl _) _) (Nat.le_refl _) _) (Nat.le_refl _) _) (Nat.le_refl _) _) (Nat.le_refl _) _)
  · have HN := Aside0.mk hn
    have hz := HR.out
    have z0 := (blk_cell hz 0).trans (rfl : _ = some (Value.int .u8 0))
    have y0 := blk_frozen hz 0
    have z1 := (blk_cell hz 1).trans (rfl : _ = some (Value.int .u8 0))
    have y1 := blk_frozen hz 1
    have z2 := (blk_cell hz 2).trans (rfl : _ = some (Value.int .u8 0))
    have y2 := blk_frozen hz 2
    have z3 := (blk_cell hz 3).trans (rfl : _ = some (Value.int .u8 0))
    have y3 := blk_frozen hz 3
    have z4 := (blk_cell hz 4).trans (rfl : _ = some (Value.int .u8 0))
    have y4 := blk_frozen hz 4
    have z5 := (blk_cell hz 5).trans (rfl : _ = some (Value.int .u16 0))
    have y5 := blk_frozen hz 5
    have hltR : w.heap.size < w1.heap.size := blk_lt hz
    clear hz hn
    go_wp2
    refine bodyPost_ret (results_ct rfl _ _ w.heap.size 25 #[.int .u8 0, .int .u8 0, .int .u8 0, .int .u8 0, .int .u8 0, .int .u16 0] (0, 0) _ rfl (blk_alloc (blk_put (blk_put (blk_put (blk_put (blk_put (blk_put HR.out 0 _ rfl) 1 _ rfl) 2 _ rfl) 3 _ rfl) 4 _ rfl) 5 _ rfl) _) Try.underlying25 rfl (by kernel_rfl)) rfl ?_
    refine ⟨.inr ⟨HN.out, rfl⟩, ?_⟩
    exact below_alloc (Below.setCell (Below.setCell (Below.setCell (Below.setCell (Below.setCell (Below.setCell HB.out (Nat.le_refl _) _) (Nat.le_refl _) _) (Nat.le_refl _) _) (Nat.le_refl _) _) (Nat.le_refl _) _) (Nat.le_refl _) _) _
end Go.Proofs.Ytffbkmcaecmmgaa.Ops
