/- source.ordered, walked: the item of an instruction's words; what is none panics. -/
import Derived.Test.YtjedbamcjgabpaaDoorSrcAll
import Derived.Test.YtjedbamcjgabpaaDoorSrcCq
import Derived.Lib.Join
set_option linter.unusedVariables false
set_option linter.unusedSimpArgs false
namespace Go.Proofs.YtjedbamcjgabpaaDoor.PSo
open Go Go.RowKit
open Go.Proofs.YtjedbamcjgabpaaDoorW.PrintWords
open Go.Proofs.YtjedbamcjgabpaaDoor.Src

set_option maxRecDepth 100000 in
theorem parts_same (a0 : Int) (r : ByteArray) (w : World) (h : source_parts.f a0 = some r) :
 Calls Tryd.prog 42 #[.int .u8 a0] w fun e w' => e = .returned (.string r) ∧ w = w' := by
 unfold source_parts.f at h
 by_cases h0 : 0 ≤ a0
 ·rw [if_pos h0] at h
  by_cases h1 : a0 < 256
  ·rw [if_pos h1] at h
   have e1 := and3 a0 h0 h1
   have hc : a0 % 4 = 0 ∨ a0 % 4 = 1 ∨ a0 % 4 = 2 ∨ a0 % 4 = 3 := by omega
   rcases hc with e2 | e2 | e2 | e2 <;> rw [e2] at e1 h
   all_goals
    obtain rfl := Option.some.inj h
    clear h e2
    have hb : ∀ w : World, (Instr.build 105 #[(0, Value.string ⟨#[]⟩), (1, Value.string ⟨#[116, 111]⟩), (2, Value.string ⟨#[104, 105, 103, 104]⟩), (3, Value.string ⟨#[108, 111, 119]⟩)]).run Tryd.prog w = .ok (.agg #[.string ⟨#[]⟩, .string ⟨#[116, 111]⟩, .string ⟨#[104, 105, 103, 104]⟩, .string ⟨#[108, 111, 119]⟩]) w := fun _ => by kernel_rfl
    have i0 : ∀ w : World, (Instr.index 105 (.agg #[.string ⟨#[]⟩, .string ⟨#[116, 111]⟩, .string ⟨#[104, 105, 103, 104]⟩, .string ⟨#[108, 111, 119]⟩]) (.int .u8 0)).run Tryd.prog w = .ok (.string ⟨#[]⟩) w := fun _ => by kernel_rfl
    have i1 : ∀ w : World, (Instr.index 105 (.agg #[.string ⟨#[]⟩, .string ⟨#[116, 111]⟩, .string ⟨#[104, 105, 103, 104]⟩, .string ⟨#[108, 111, 119]⟩]) (.int .u8 1)).run Tryd.prog w = .ok (.string ⟨#[116, 111]⟩) w := fun _ => by kernel_rfl
    have i2 : ∀ w : World, (Instr.index 105 (.agg #[.string ⟨#[]⟩, .string ⟨#[116, 111]⟩, .string ⟨#[104, 105, 103, 104]⟩, .string ⟨#[108, 111, 119]⟩]) (.int .u8 2)).run Tryd.prog w = .ok (.string ⟨#[104, 105, 103, 104]⟩) w := fun _ => by kernel_rfl
    have i3 : ∀ w : World, (Instr.index 105 (.agg #[.string ⟨#[]⟩, .string ⟨#[116, 111]⟩, .string ⟨#[104, 105, 103, 104]⟩, .string ⟨#[108, 111, 119]⟩]) (.int .u8 3)).run Tryd.prog w = .ok (.string ⟨#[108, 111, 119]⟩) w := fun _ => by kernel_rfl
    go_enter Tryd.func42, Tryd.ntmps42
    go_wp2
    go_ret
    exact ⟨rfl, rfl⟩
  ·rw [if_neg h1] at h; cases h
 ·rw [if_neg h0] at h; cases h

def pv1 (x : ByteArray) : Int := if x.toList = [116, 111] then 1 else 0
def pv2 (x : ByteArray) : Int := if x.toList = [104, 105, 103, 104] then 2 else pv1 x
def pv3 (x : ByteArray) : Int := if x.toList = [108, 111, 119] then 3 else pv2 x
def cellsO (x0 : ByteArray) (p : Int) : Array Value := #[.int .u8 2, .string x0, .int .i64 0, .string ⟨#[]⟩, .int .u8 p, .slice none 0 0]
/-- The loop's states: how far, and what part has been found. -/
def OrRel (w0 : World) (x0 x1 : ByteArray) (gr gi : Nat) (s4 : Value) (W : World) : Prop :=
 ∃ (k : Nat) (p : Int), s4 = .int .u8 (k : Int) ∧ (k = 1 ∧ p = 0 ∨ k = 2 ∧ p = pv1 x1 ∨ k = 3 ∧ p = pv2 x1 ∨ k = 4 ∧ p = pv3 x1) ∧ Aside0 (W.heap[gi]? = some (.cells (cellsO x0 p) 43 (0, 0)) ∧ W.heap[gr]? = some (.cells zcells 43 (0, 0)) ∧ Below w0.heap.size w0 W)
theorem three_cell {w : World} {A : Option Addr} {x0 x1 x2 : ByteArray} (hr : Kd.C Kd.string w A 3 [x0, x1, x2]) : ∃ ad, A = some ad ∧ w.cell? ad = some (.string x0) ∧ w.cell? ⟨ad.block, ad.off + 1, none⟩ = some (.string x1) ∧ w.cell? ⟨ad.block, ad.off + 2, none⟩ = some (.string x2) := by
 obtain ⟨ad, e, h⟩ := Kd.at_string hr 0 (by decide) (by decide)
 obtain ⟨ad1, e1, h1⟩ := Kd.at_string hr 1 (by decide) (by decide)
 obtain ⟨ad2, e2, h2⟩ := Kd.at_string hr 2 (by decide) (by decide)
 subst e
 obtain rfl := Option.some.inj e1
 obtain rfl := Option.some.inj e2
 exact ⟨ad, rfl, h, h1, h2⟩

def OrPost (x0 x1 x2 : ByteArray) (e : Ending) : Prop := if pv3 x1 = 0 then e = .panicked PN else e = .returned (.agg #[.int .u8 2, .string x0, .int .i64 0, .string x2, .int .u8 (pv3 x1), .slice none 0 0])
set_option maxRecDepth 100000 in
set_option maxHeartbeats 8000000 in
theorem ord3 (A : Option Addr) (c : Nat) (x0 x1 x2 : ByteArray) (w : World) (hr : Kd.C Kd.string w A 3 [x0, x1, x2]) :
 Calls Tryd.prog 51 #[.slice A 3 c] w fun e w' => OrPost x0 x1 x2 e ∧ Below w.heap.size w w' := by
 obtain ⟨ad, rfl, hq0, hq1, hq2⟩ := three_cell hr
 have HQ := Aside0.mk (And.intro hq0 (And.intro hq1 hq2))
 have HB := Aside0.mk (below_alloc (Below.refl w.heap.size w) (.cells zcells 43))
 have HR := Aside0.mk (blk_new w (.cells zcells 43))
 have hw0 := (HB.out.cell (World.block_lt_of_cell? w _ hq0)).trans hq0
 unfold zcells at HB HR hw0
 clear hr hq0 hq1 hq2
 go_enter Tryd.func51, Tryd.ntmps51
 go_wp2
 have H0 : Aside0 (((w.alloc (.cells #[.int .u8 0, .string ⟨#[]⟩, .int .i64 0, .string ⟨#[]⟩, .int .u8 0, .slice none 0 0] 43)).alloc (.cells #[.int .u8 2, .string x0, .int .i64 0, .string ⟨#[]⟩, .int .u8 0, .slice none 0 0] 43)).heap[w.heap.size + 1]? = some (.cells (cellsO x0 0) 43 (0, 0)) ∧ ((w.alloc (.cells #[.int .u8 0, .string ⟨#[]⟩, .int .i64 0, .string ⟨#[]⟩, .int .u8 0, .slice none 0 0] 43)).alloc (.cells #[.int .u8 2, .string x0, .int .i64 0, .string ⟨#[]⟩, .int .u8 0, .slice none 0 0] 43)).heap[w.heap.size]? = some (.cells zcells 43 (0, 0)) ∧ Below w.heap.size w ((w.alloc (.cells #[.int .u8 0, .string ⟨#[]⟩, .int .i64 0, .string ⟨#[]⟩, .int .u8 0, .slice none 0 0] 43)).alloc (.cells #[.int .u8 2, .string x0, .int .i64 0, .string ⟨#[]⟩, .int .u8 0, .slice none 0 0] 43))) := by
  have h1 := blk_new (w.alloc (.cells #[.int .u8 0, .string ⟨#[]⟩, .int .i64 0, .string ⟨#[]⟩, .int .u8 0, .slice none 0 0] 43)) (.cells #[.int .u8 2, .string x0, .int .i64 0, .string ⟨#[]⟩, .int .u8 0, .slice none 0 0] 43)
  have h2 : (w.alloc (.cells #[.int .u8 0, .string ⟨#[]⟩, .int .i64 0, .string ⟨#[]⟩, .int .u8 0, .slice none 0 0] 43)).heap.size = w.heap.size + 1 := by simp
  rw [h2] at h1
  exact ⟨h1, blk_alloc HR.out _, below_alloc HB.out _⟩
 clear HB HR hw0
 generalize ((w.alloc (.cells #[.int .u8 0, .string ⟨#[]⟩, .int .i64 0, .string ⟨#[]⟩, .int .u8 0, .slice none 0 0] 43)).alloc (.cells #[.int .u8 2, .string x0, .int .i64 0, .string ⟨#[]⟩, .int .u8 0, .slice none 0 0] 43)) = W0 at H0 ⊢
 go_loopw [4] (fun s4 W => OrRel w x0 x1 w.heap.size (w.heap.size + 1) s4 W) (fun s4 _ => 5 - (RowKit.intOf s4).toNat)
 case atStart => exact ⟨1, 0, rfl, .inl ⟨rfl, rfl⟩, H0⟩
 case round =>
  clear H0
  obtain ⟨k, p, rfl, hcase, HP⟩ := hrel
  have hne : ¬ w.heap.size + 1 = w.heap.size := by omega
  have hne2 : ¬ w.heap.size = w.heap.size + 1 := by omega
  have q1 := (HP.out.2.2.cell (World.block_lt_of_cell? w _ HQ.out.2.1)).trans HQ.out.2.1
  rcases hcase with ⟨rfl, rfl⟩ | ⟨rfl, rfl⟩ | ⟨rfl, rfl⟩ | ⟨rfl, rfl⟩
  ·by_cases e : x1.toList = [116, 111]
   ·have hp : pv1 x1 = 1 := by unfold pv1; rw [if_pos e]
    have t1 : (x1.toList == [116, 111]) = true := beq_iff_eq.2 e
    have HN := Aside0.mk hp
    clear hp e
    go_wp2
    go_quiet ((go_at_call 42; exact Calls.quiet_of_same ((parts_same 1 ⟨#[116, 111]⟩ _ rfl).mono (fun _ _ hh => ⟨hh.1, hh.2.symm⟩))))
    all_goals
     obtain ⟨od, hod⟩ : ∃ od, (0 : Int) = od := ⟨_, rfl⟩
     rw [hod] at HP
     clear hod
     have hb := blk_drewN HP.out.1 nq
     have z4 := (blk_cell hb 4).trans (rfl : _ = some (Value.int .u8 od))
     have f4 := blk_frozen hb 4
     have HP1 := Aside0.mk (And.intro (blk_put (cs' := cellsO x0 1) hb 4 (.int .u8 1) rfl) (And.intro (blk_far (p := ⟨w.heap.size + 1, 4, none⟩) (blk_drewN HP.out.2.1 nq) hne2 (.int .u8 1)) (below_set (j := 4) (v := .int .u8 1) (pw_below_drewN HP.out.2.2 nq) (Nat.le_succ w.heap.size))))
     clear hb q1
     go_wp2
     go_roundw
     case rel => exact ⟨2, pv1 x1, rfl, .inr (.inl ⟨rfl, rfl⟩), by rw [HN.out]; exact HP1⟩
     case measure => simp [RowKit.intOf]
   ·have hp : pv1 x1 = (0 : Int) := by unfold pv1; rw [if_neg e]
    have t1 : (x1.toList == [116, 111]) = false := beq_eq_false_iff_ne.2 e
    have HN := Aside0.mk hp
    clear hp e
    go_wp2
    go_quiet ((go_at_call 42; exact Calls.quiet_of_same ((parts_same 1 ⟨#[116, 111]⟩ _ rfl).mono (fun _ _ hh => ⟨hh.1, hh.2.symm⟩))))
    all_goals
     have HP1 := Aside0.mk (And.intro (blk_drewN HP.out.1 nq) (And.intro (blk_drewN HP.out.2.1 nq) (pw_below_drewN HP.out.2.2 nq)))
     clear q1
     go_wp2
     go_roundw
     case rel => exact ⟨2, pv1 x1, rfl, .inr (.inl ⟨rfl, rfl⟩), by rw [HN.out]; exact HP1⟩
     case measure => simp [RowKit.intOf]
  ·by_cases e : x1.toList = [104, 105, 103, 104]
   ·have hp : pv2 x1 = 2 := by unfold pv2; rw [if_pos e]
    have t1 : (x1.toList == [104, 105, 103, 104]) = true := beq_iff_eq.2 e
    have HN := Aside0.mk hp
    clear hp e
    go_wp2
    go_quiet ((go_at_call 42; exact Calls.quiet_of_same ((parts_same 2 ⟨#[104, 105, 103, 104]⟩ _ rfl).mono (fun _ _ hh => ⟨hh.1, hh.2.symm⟩))))
    all_goals
     obtain ⟨od, hod⟩ : ∃ od, (pv1 x1) = od := ⟨_, rfl⟩
     rw [hod] at HP
     clear hod
     have hb := blk_drewN HP.out.1 nq
     have z4 := (blk_cell hb 4).trans (rfl : _ = some (Value.int .u8 od))
     have f4 := blk_frozen hb 4
     have HP1 := Aside0.mk (And.intro (blk_put (cs' := cellsO x0 2) hb 4 (.int .u8 2) rfl) (And.intro (blk_far (p := ⟨w.heap.size + 1, 4, none⟩) (blk_drewN HP.out.2.1 nq) hne2 (.int .u8 2)) (below_set (j := 4) (v := .int .u8 2) (pw_below_drewN HP.out.2.2 nq) (Nat.le_succ w.heap.size))))
     clear hb q1
     go_wp2
     go_roundw
     case rel => exact ⟨3, pv2 x1, rfl, .inr (.inr (.inl ⟨rfl, rfl⟩)), by rw [HN.out]; exact HP1⟩
     case measure => simp [RowKit.intOf]
   ·have hp : pv2 x1 = (pv1 x1) := by unfold pv2; rw [if_neg e]
    have t1 : (x1.toList == [104, 105, 103, 104]) = false := beq_eq_false_iff_ne.2 e
    have HN := Aside0.mk hp
    clear hp e
    go_wp2
    go_quiet ((go_at_call 42; exact Calls.quiet_of_same ((parts_same 2 ⟨#[104, 105, 103, 104]⟩ _ rfl).mono (fun _ _ hh => ⟨hh.1, hh.2.symm⟩))))
    all_goals
     have HP1 := Aside0.mk (And.intro (blk_drewN HP.out.1 nq) (And.intro (blk_drewN HP.out.2.1 nq) (pw_below_drewN HP.out.2.2 nq)))
     clear q1
     go_wp2
     go_roundw
     case rel => exact ⟨3, pv2 x1, rfl, .inr (.inr (.inl ⟨rfl, rfl⟩)), by rw [HN.out]; exact HP1⟩
     case measure => simp [RowKit.intOf]
  ·by_cases e : x1.toList = [108, 111, 119]
   ·have hp : pv3 x1 = 3 := by unfold pv3; rw [if_pos e]
    have t1 : (x1.toList == [108, 111, 119]) = true := beq_iff_eq.2 e
    have HN := Aside0.mk hp
    clear hp e
    go_wp2
    go_quiet ((go_at_call 42; exact Calls.quiet_of_same ((parts_same 3 ⟨#[108, 111, 119]⟩ _ rfl).mono (fun _ _ hh => ⟨hh.1, hh.2.symm⟩))))
    all_goals
     obtain ⟨od, hod⟩ : ∃ od, (pv2 x1) = od := ⟨_, rfl⟩
     rw [hod] at HP
     clear hod
     have hb := blk_drewN HP.out.1 nq
     have z4 := (blk_cell hb 4).trans (rfl : _ = some (Value.int .u8 od))
     have f4 := blk_frozen hb 4
     have HP1 := Aside0.mk (And.intro (blk_put (cs' := cellsO x0 3) hb 4 (.int .u8 3) rfl) (And.intro (blk_far (p := ⟨w.heap.size + 1, 4, none⟩) (blk_drewN HP.out.2.1 nq) hne2 (.int .u8 3)) (below_set (j := 4) (v := .int .u8 3) (pw_below_drewN HP.out.2.2 nq) (Nat.le_succ w.heap.size))))
     clear hb q1
     go_wp2
     go_roundw
     case rel => exact ⟨4, pv3 x1, rfl, .inr (.inr (.inr ⟨rfl, rfl⟩)), by rw [HN.out]; exact HP1⟩
     case measure => simp [RowKit.intOf]
   ·have hp : pv3 x1 = (pv2 x1) := by unfold pv3; rw [if_neg e]
    have t1 : (x1.toList == [108, 111, 119]) = false := beq_eq_false_iff_ne.2 e
    have HN := Aside0.mk hp
    clear hp e
    go_wp2
    go_quiet ((go_at_call 42; exact Calls.quiet_of_same ((parts_same 3 ⟨#[108, 111, 119]⟩ _ rfl).mono (fun _ _ hh => ⟨hh.1, hh.2.symm⟩))))
    all_goals
     have HP1 := Aside0.mk (And.intro (blk_drewN HP.out.1 nq) (And.intro (blk_drewN HP.out.2.1 nq) (pw_below_drewN HP.out.2.2 nq)))
     clear q1
     go_wp2
     go_roundw
     case rel => exact ⟨4, pv3 x1, rfl, .inr (.inr (.inr ⟨rfl, rfl⟩)), by rw [HN.out]; exact HP1⟩
     case measure => simp [RowKit.intOf]
  ·obtain ⟨p, hp⟩ : ∃ p, pv3 x1 = p := ⟨_, rfl⟩
   rw [hp] at HP
   have HPV := Aside0.mk hp
   clear hp
   have c4 := (blk_cell HP.out.1 4).trans (rfl : _ = some (Value.int .u8 p))
   by_cases h0 : p = 0
   ·subst h0
    have HBB := Aside0.mk HP.out.2.2
    clear HP
    go_wp2_with fail
    (with_reducible refine (must_no _).mono ?_)
    rintro e w2 ⟨rfl, rfl⟩
    simp only [Exit.then, Exit.inBlock]
    exact bodyPost_panic rfl ⟨by unfold OrPost; rw [HPV.out, if_pos rfl], HBB.out⟩
   ·have HNZ := Aside0.mk h0
    have t1 : (p != 0) = true := bne_iff_ne.2 h0
    have q2 := (HP.out.2.2.cell (World.block_lt_of_cell? w _ HQ.out.2.2)).trans HQ.out.2.2
    clear h0 q1
    go_wp2_with fail
    (with_reducible refine (must_yes _).mono ?_)
    rintro e w2 ⟨rfl, rfl⟩
    clear c4
    have o0 := (blk_cell HP.out.1 0).trans (rfl : _ = some (Value.int .u8 2))
    have o1 := (blk_cell HP.out.1 1).trans (rfl : _ = some (Value.string x0))
    have o2 := (blk_cell HP.out.1 2).trans (rfl : _ = some (Value.int .i64 0))
    have o3 := (blk_cell HP.out.1 3).trans (rfl : _ = some (Value.string ⟨#[]⟩))
    have o4 := (blk_cell HP.out.1 4).trans (rfl : _ = some (Value.int .u8 p))
    have o5 := (blk_cell HP.out.1 5).trans (rfl : _ = some (Value.slice none 0 0))
    have z0 := (blk_cell HP.out.2.1 0).trans (rfl : _ = some (Value.int .u8 0))
    have f0 := blk_frozen HP.out.2.1 0
    have z1 := (blk_cell HP.out.2.1 1).trans (rfl : _ = some (Value.string ⟨#[]⟩))
    have f1 := blk_frozen HP.out.2.1 1
    have z2 := (blk_cell HP.out.2.1 2).trans (rfl : _ = some (Value.int .i64 0))
    have f2 := blk_frozen HP.out.2.1 2
    have z3 := (blk_cell HP.out.2.1 3).trans (rfl : _ = some (Value.string ⟨#[]⟩))
    have f3 := blk_frozen HP.out.2.1 3
    have z4 := (blk_cell HP.out.2.1 4).trans (rfl : _ = some (Value.int .u8 0))
    have f4 := blk_frozen HP.out.2.1 4
    have z5 := (blk_cell HP.out.2.1 5).trans (rfl : _ = some (Value.slice none 0 0))
    have f5 := blk_frozen HP.out.2.1 5
    have g3 := blk_frozen HP.out.1 3
    go_wp2
    have hi := blk_far (p := ⟨w.heap.size + 1, 3, none⟩) HP.out.2.1 hne2 (.string x2)
    refine bodyPost_ret (results_cell_row rfl _ _ w.heap.size 43 #[.int .u8 2, .string x0, .int .i64 0, .string x2, .int .u8 p, .slice none 0 0] (0, 0) _ rfl (blk_put (blk_put (blk_put (blk_put (blk_put (blk_put hi 0 _ rfl) 1 _ rfl) 2 _ rfl) 3 _ rfl) 4 _ rfl) 5 _ rfl) Tryd.underlying43 rfl (by kernel_rfl)) rfl ?_
    exact ⟨by unfold OrPost; rw [HPV.out, if_neg HNZ.out], below_set (below_set (below_set (below_set (below_set (below_set (below_set HP.out.2.2 (Nat.le_succ _)) (Nat.le_refl _)) (Nat.le_refl _)) (Nat.le_refl _)) (Nat.le_refl _)) (Nat.le_refl _)) (Nat.le_refl _)⟩
-- behind ord3
def joinB (l : List ByteArray) : ByteArray := ⟨(Lib.join (l.map (·.data.toList)) [32]).toArray⟩
theorem addr_of {w : World} {ad : Addr} {v : Value} (h : w.cell? ad = some v) : ad = ⟨ad.block, ad.off, none⟩ := by
 cases ad with
 | mk b o s =>
  cases s with
  | none => rfl
  | some k =>
   exfalso
   unfold World.cell? at h
   split at h <;> simp at h
theorem words_cells {w : World} {A : Option Addr} {l : List ByteArray} (hr : Kd.C Kd.string w A l.length l) (hne : l ≠ []) : ∃ bk o, A = some ⟨bk, o, none⟩ ∧ bk < w.heap.size ∧ (∀ (j : Nat) x, l[j]? = some x → w.cell? ⟨bk, o + j, none⟩ = some (.string x)) := by
 have h0 : 0 < l.length := List.length_pos_iff.2 hne
 obtain ⟨ad, e, h⟩ := Kd.at_string hr 0 (by decide) (by omega)
 have e0 : ad.add (0 : Int).toNat = ad := rfl
 rw [e0] at h
 have ea := addr_of h
 refine ⟨ad.block, ad.off, by rw [e]; exact congrArg some ea, World.block_lt_of_cell? w _ h, fun j x hx => ?_⟩
 have hj : j < l.length := (List.getElem?_eq_some_iff.1 hx).1
 obtain ⟨ad', e', h'⟩ := Kd.at_string hr (j : Int) (by omega) (by omega)
 rw [e] at e'
 obtain rfl := Option.some.inj e'
 have hx' : l[j] = x := (List.getElem?_eq_some_iff.1 hx).2
 have e1 : rdOf ByteArray.empty l (j : Int) = x := by
  unfold rdOf
  simp [List.getD_eq_getElem?_getD, hx]
 rw [e1, Int.toNat_natCast] at h'
 have e2 : ad.add j = ⟨ad.block, ad.off + j, none⟩ := by
  unfold Addr.add
  by_cases z : j = 0
  ·subst z; rw [if_pos rfl]; exact ea
  ·rw [if_neg z]
 rw [e2] at h'
 exact h'
def OrnPost (x0 : ByteArray) (arg er : Int) (e : Ending) : Prop := if er = 0 then e = .returned (.agg #[.int .u8 2, .string x0, .int .i64 arg, .string ⟨#[]⟩, .int .u8 0, .slice none 0 0]) else e = .panicked PN
set_option maxRecDepth 100000 in
set_option maxHeartbeats 8000000 in
theorem ordn (A : Option Addr) (c : Nat) (x0 : ByteArray) (r : List ByteArray) (w : World) (hr : Kd.C Kd.string w A (x0 :: r).length (x0 :: r)) (hc : (x0 :: r).length ≤ c) (h3 : (x0 :: r).length ≠ 3) (nm : ByteArray) (arg er : Int) (hp : code_Parse.f (joinB (x0 :: r)) = some (nm, arg, er)) (hG : GOk w) :
 Calls Tryd.prog 51 #[.slice A (x0 :: r).length c] w fun e w' => OrnPost x0 arg er e ∧ Below w.heap.size w w' := by
 obtain ⟨bk, o, rfl, hbk, hcs⟩ := words_cells hr (by simp)
 have hsz : (joinB (x0 :: r)).size ≤ 1000000 := by
  unfold code_Parse.f at hp
  by_cases c : (joinB (x0 :: r)).size ≤ 1000000
  ·exact c
  ·rw [if_neg c] at hp; cases hp
 have hln : (Lib.join ((x0 :: r).map (·.data.toList)) [32]).length ≤ 140737488355328 := by
  have e : (joinB (x0 :: r)).size = (Lib.join ((x0 :: r).map (·.data.toList)) [32]).length := by unfold joinB; show (Array.size _) = _; simp
  omega
 have hN : (x0 :: r).length ≤ 140737488355328 := by
  have h1 : ∀ l : List (List UInt8), l.length ≤ (Lib.join l [32]).length + 1 := by
   intro l
   induction l with
   | nil => simp
   | cons a l ih =>
    cases l with
    | nil => simp
    | cons b l =>
     have e : Lib.join (a :: b :: l) [32] = a ++ [32] ++ Lib.join (b :: l) [32] := by simp [Lib.join, List.intercalate]
     rw [e]
     simp only [List.length_append, List.length_cons, List.length_nil] at ih ⊢
     omega
  have h2 := h1 ((x0 :: r).map (·.data.toList))
  rw [List.length_map] at h2
  have e : (joinB (x0 :: r)).size = (Lib.join ((x0 :: r).map (·.data.toList)) [32]).length := by unfold joinB; show (Array.size _) = _; simp
  omega
 have hq0 := hcs 0 x0 rfl
 obtain ⟨n, hn⟩ : ∃ n, (x0 :: r).length = n := ⟨_, rfl⟩
 rw [hn] at h3 hc ⊢
 have hj : ∀ (W : World), Below w.heap.size w W → Calls Tryd.prog 68 #[.slice (some ⟨bk, o, none⟩) (x0 :: r).length c, .string ⟨#[32]⟩] W fun e w' => e = .returned (.string (joinB (x0 :: r))) ∧ Below W.heap.size W w' := (fun (W : World) (hb : Below w.heap.size w W) => Tryd.strings_Join bk o c (x0 :: r) ⟨#[32]⟩ W (fun j x hx => (hb.cell (World.block_lt_of_cell? w _ (hcs j x hx))).trans (hcs j x hx)) (Nat.lt_of_lt_of_le hbk hb.size) hN (by omega) hln)
 obtain ⟨s, hs⟩ : ∃ s, joinB (x0 :: r) = s := ⟨_, rfl⟩
 rw [hs] at hj hp
 have HJ := Aside0.mk hj
 clear hj
 rw [hn] at HJ
 have HP := Aside0.mk hp
 have HG := Aside0.mk hG
 have HB := Aside0.mk (below_alloc (Below.refl w.heap.size w) (.cells zcells 43))
 have HR := Aside0.mk (blk_new w (.cells zcells 43))
 have hw0 := (HB.out.cell (World.block_lt_of_cell? w _ hq0)).trans hq0
 unfold zcells at HB HR hw0
 simp only [Nat.add_zero] at hw0
 have t3 : ((n : Int) == 3) = false := beq_eq_false_iff_ne.2 (by omega)
 have n0 : (0 : Int) < (n : Int) := by rw [← hn]; simp
 clear hr hc hcs hq0 hbk hG hp h3 hsz hln hN hn hs
 go_enter Tryd.func51, Tryd.ntmps51
 go_wp2_with fail
 have HB1 := Aside0.mk (below_alloc HB.out (.cells (cellsO x0 0) 43))
 have HR1 := Aside0.mk (blk_alloc HR.out (.cells (cellsO x0 0) 43))
 have HO1 := Aside0.mk (blk_new (w.alloc (.cells #[.int .u8 0, .string ⟨#[]⟩, .int .i64 0, .string ⟨#[]⟩, .int .u8 0, .slice none 0 0] 43)) (.cells (cellsO x0 0) 43))
 rw [show (w.alloc (.cells #[.int .u8 0, .string ⟨#[]⟩, .int .i64 0, .string ⟨#[]⟩, .int .u8 0, .slice none 0 0] 43)).heap.size = w.heap.size + 1 by simp] at HO1
 unfold cellsO at HB1 HR1 HO1
 generalize ((w.alloc (.cells #[.int .u8 0, .string ⟨#[]⟩, .int .i64 0, .string ⟨#[]⟩, .int .u8 0, .slice none 0 0] 43)).alloc (.cells #[.int .u8 2, .string x0, .int .i64 0, .string ⟨#[]⟩, .int .u8 0, .slice none 0 0] 43)) = W1 at HB1 HR1 HO1 ⊢
 clear HB HR hw0
 (with_reducible refine (HJ.out _ HB1.out).mono ?_)
 rintro e w2 ⟨rfl, hb⟩
 have HB2 := Aside0.mk (below_step HB1.out hb)
 have HR2 := Aside0.mk (blk_below HR1.out hb)
 have HO2 := Aside0.mk (blk_below HO1.out hb)
 clear hb HB1 HR1 HO1 HJ
 go_wp2_with fail
 (with_reducible refine (code_Parse.calls s nm arg er _ HP.out (GOk.below HG.out HB2.out)).mono ?_)
 rintro e w3 ⟨rfl, hb⟩
 have HB3 := Aside0.mk (below_alloc (below_step HB2.out hb) (.cells #[.string nm, .int .i64 arg] 80))
 have HR3 := Aside0.mk (blk_alloc (blk_below HR2.out hb) (.cells #[.string nm, .int .i64 arg] 80))
 have HO3 := Aside0.mk (blk_alloc (blk_below HO2.out hb) (.cells #[.string nm, .int .i64 arg] 80))
 have HI3 := Aside0.mk (blk_new w3 (.cells #[.string nm, .int .i64 arg] 80))
 have hs3 : w.heap.size + 1 < w3.heap.size := blk_lt (blk_below HO2.out hb)
 clear hb HB2 HR2 HO2 HP HG
 by_cases her : er = 0
 ·subst her
  go_wp2_with fail
  generalize w3.alloc (.cells #[.string nm, .int .i64 arg] 80) = W3 at HB3 HR3 HO3 HI3 ⊢
  (with_reducible refine (must_yes _).mono ?_)
  rintro e w4 ⟨rfl, rfl⟩
  have hne : ¬ w.heap.size + 1 = w.heap.size := by omega
  have hne2 : ¬ w.heap.size = w.heap.size + 1 := by omega
  have i1 := (blk_cell HI3.out 1).trans (rfl : _ = some (Value.int .i64 arg))
  have HO4 := HO3
  have HR4 := HR3
  have o0 := (blk_cell HO4.out 0).trans (rfl : _ = some (Value.int .u8 2))
  have o1 := (blk_cell HO4.out 1).trans (rfl : _ = some (Value.string x0))
  have o2 := (blk_cell HO4.out 2).trans (rfl : _ = some (Value.int .i64 0))
  have o3 := (blk_cell HO4.out 3).trans (rfl : _ = some (Value.string ⟨#[]⟩))
  have o4 := (blk_cell HO4.out 4).trans (rfl : _ = some (Value.int .u8 0))
  have o5 := (blk_cell HO4.out 5).trans (rfl : _ = some (Value.slice none 0 0))
  have z0 := (blk_cell HR4.out 0).trans (rfl : _ = some (Value.int .u8 0))
  have f0 := blk_frozen HR4.out 0
  have z1 := (blk_cell HR4.out 1).trans (rfl : _ = some (Value.string ⟨#[]⟩))
  have f1 := blk_frozen HR4.out 1
  have z2 := (blk_cell HR4.out 2).trans (rfl : _ = some (Value.int .i64 0))
  have f2 := blk_frozen HR4.out 2
  have z3 := (blk_cell HR4.out 3).trans (rfl : _ = some (Value.string ⟨#[]⟩))
  have f3 := blk_frozen HR4.out 3
  have z4 := (blk_cell HR4.out 4).trans (rfl : _ = some (Value.int .u8 0))
  have f4 := blk_frozen HR4.out 4
  have z5 := (blk_cell HR4.out 5).trans (rfl : _ = some (Value.slice none 0 0))
  have f5 := blk_frozen HR4.out 5
  have g2 := blk_frozen HO4.out 2
  go_wp2
  have hi := blk_far (p := ⟨w.heap.size + 1, 2, none⟩) HR4.out hne2 (.int .i64 arg)
  refine bodyPost_ret (results_cell_row rfl _ _ w.heap.size 43 #[.int .u8 2, .string x0, .int .i64 arg, .string ⟨#[]⟩, .int .u8 0, .slice none 0 0] (0, 0) _ rfl (blk_put (blk_put (blk_put (blk_put (blk_put (blk_put hi 0 _ rfl) 1 _ rfl) 2 _ rfl) 3 _ rfl) 4 _ rfl) 5 _ rfl) Tryd.underlying43 rfl (by kernel_rfl)) rfl ?_
  exact ⟨by unfold OrnPost; rw [if_pos rfl], below_set (below_set (below_set (below_set (below_set (below_set (below_set HB3.out (Nat.le_succ _)) (Nat.le_refl _)) (Nat.le_refl _)) (Nat.le_refl _)) (Nat.le_refl _)) (Nat.le_refl _)) (Nat.le_refl _)⟩
 ·have t1 : (er == 0) = false := beq_eq_false_iff_ne.2 her
  have HE := Aside0.mk her
  clear her
  go_wp2_with fail
  (with_reducible refine (must_no _).mono ?_)
  rintro e w4 ⟨rfl, rfl⟩
  exact bodyPost_panic rfl ⟨by unfold OrnPost; rw [if_neg HE.out], HB3.out⟩
end Go.Proofs.YtjedbamcjgabpaaDoor.PSo
